/-
  exact.Whole, as a value.
-/
import Derived.Test.YtdginjpppgfdaaaDg
import Derived.Test.YtdginjpppgfdaaaEe
namespace Go.Proofs.Ytdginjpppgfdaaa.Eg
open Go.RowKit Go Go.Proofs.YtdginjpppgfdaaaW.PrintWords Go.Proofs.YtdginjpppgfdaaaW.PrintLast Go.Proofs.YtdginjpppgfdaaaW.PrintMore Go.Proofs.Ytdginjpppgfdaaa.Ml Go.Proofs.Ytdginjpppgfdaaa.Mn Go.Proofs.Ytdginjpppgfdaaa.Nd Go.Proofs.Ytdginjpppgfdaaa.P Go.Proofs.Ytdginjpppgfdaaa.Nc Go.Proofs.Ytdginjpppgfdaaa.Nb Go.Proofs.Ytdginjpppgfdaaa.Qa Go.Proofs.Ytdginjpppgfdaaa.Qb Go.Proofs.Ytdginjpppgfdaaa.Ea Go.Proofs.Ytdginjpppgfdaaa.Eb Go.Proofs.Ytdginjpppgfdaaa.Ec Go.Proofs.Ytdginjpppgfdaaa.Dg
set_option linter.unusedVariables false
set_option linter.unusedSimpArgs false

def vWhole (n d s : Int) : Value := if valid n d then (if isScale s then (if (n * s).tmod d = 0 then (if big ((n * s).tdiv d) then two (.int .i64 0) (er 2) else two (.int .i64 ((n * s).tdiv d)) (er 0)) else two (.int .i64 0) (er 20)) else two (.int .i64 0) (er 1)) else two (.int .i64 0) (er 4)
theorem vWhole_form (n d s : Int) : ∃ q e, vWhole n d s = .tuple #[.int .i64 q, .int .i64 e] := by
  unfold vWhole two er
  repeat' split
  all_goals exact ⟨_, _, rfl⟩
set_option maxHeartbeats 8000000 in
set_option maxRecDepth 100000 in
theorem Whole_n (n d s : Int) (w : World) : Calls Try.prog 41 #[tm n d, .int .i64 s] w (ValP w (vWhole n d s)) := by
  have hu := Try.underlying25
  have hb1 : Below w.heap.size w (w.alloc (.cells #[.int .i64 n, .int .i64 d] 25)) := below_alloc (Below.refl _ w) _
  have hbk := blk_new w (.cells #[.int .i64 n, .int .i64 d] 25)
  have s1 := hb1.size
  cases hv : valid n d with
  | false =>
    rw [show vWhole n d s = .tuple #[.int .i64 0, .int .i64 4] by unfold vWhole; rw [hv]; rfl]
    unfold tm
    go_enter Try.func41, Try.ntmps41
    go_wp2_with fail
    refine (Valid_n n d _).mono ?_
    rintro e w2 ⟨rfl, hb2⟩
    rw [hv]
    go_wp2_with fail
    go_ret2
    exact ⟨rfl, hb1.trans (hb2.mono s1)⟩
  | true =>
    cases hs : isScale s with
    | false =>
      rw [show vWhole n d s = .tuple #[.int .i64 0, .int .i64 1] by unfold vWhole; rw [hv, hs]; rfl]
      unfold tm
      go_enter Try.func41, Try.ntmps41
      go_wp2_with fail
      refine (Valid_n n d _).mono ?_
      rintro e w2 ⟨rfl, hb2⟩
      rw [hv]
      go_wp2_with fail
      refine (isScale_n s _).mono ?_
      rintro e w3 ⟨rfl, rfl⟩
      rw [hs]
      go_wp2_with fail
      go_ret2
      exact ⟨rfl, hb1.trans (hb2.mono s1)⟩
    | true =>
      have hv2 : ((1 ≤ d ∧ d ≤ 1152921504606846976) ∧ -1152921504606846976 ≤ n) ∧ n ≤ 1152921504606846976 := by unfold valid at hv; simpa using hv
      obtain ⟨⟨⟨hd1, hd2⟩, hn1⟩, hn2⟩ := hv2
      have hs2 : 1 ≤ s ∧ s ≤ 1000000 := by unfold isScale at hs; simpa using hs
      have hV : vWhole n d s = if (n * s).tmod d = 0 then (if big ((n * s).tdiv d) then two (.int .i64 0) (er 2) else two (.int .i64 ((n * s).tdiv d)) (er 0)) else two (.int .i64 0) (er 20) := by unfold vWhole; rw [hv, hs]; rfl
      generalize vWhole n d s = V at hV ⊢
      generalize hqq : (n * s).tdiv d = q at hV
      generalize hrr : (n * s).tmod d = r at hV
      have HQ := Aside0.mk (And.intro hqq (And.intro hrr hV))
      clear hqq hrr hV
      unfold tm
      go_enter Try.func41, Try.ntmps41
      go_wp2_with fail
      refine (Valid_n n d _).mono ?_
      rintro e w2 ⟨rfl, hb2⟩
      rw [hv]
      go_wp2_with fail
      refine (isScale_n s _).mono ?_
      rintro e w3 ⟨rfl, rfl⟩
      rw [hs]
      have hbk2 := blk_below hbk hb2
      have HB2 := Aside0.mk (hb1.trans (hb2.mono s1))
      clear hb2 hbk
      have hc0 : w2.cell? ⟨w.heap.size, 0, none⟩ = some (.int .i64 n) := (blk_cell hbk2 0).trans rfl
      have hc1 : w2.cell? ⟨w.heap.size, 1, none⟩ = some (.int .i64 d) := (blk_cell hbk2 1).trans rfl
      go_wp2_with fail
      refine start_ (n := 15) (S := fun w' => w'.cell? ⟨w.heap.size, 0, none⟩ = some (.int .i64 n) ∧ w'.cell? ⟨w.heap.size, 1, none⟩ = some (.int .i64 d)) (ds := []) (bs 15 0) (by kernel_rfl) rfl rfl ⟨hc0, hc1⟩ (fun hHeld => ?_)
      refine pure_ (i := 1) (N := some 16) (v := ?_) (a' := ?_) (bs 15 2) rfl rfl (by kernel_rfl) (fun _ _ _ h => h) (Or.inl ⟨by rfl, ?_⟩) ?_ ?_; rotate_left; (· intro w'; go_simp; first | done | with_reducible rfl); rotate_left; (· simp only [Act.put, List.setIfInBounds_toArray, List.set_cons_zero, List.set_cons_succ, i64_w, i32_w]; rfl)
      refine pure_ (i := 3) (N := some 18) (v := ?_) (a' := ?_) (bs 15 10) rfl rfl (by kernel_rfl) (fun _ _ _ h => h) (Or.inl ⟨by rfl, ?_⟩) ?_ ?_; rotate_left; (· intro w'; go_simp; first | done | with_reducible rfl); rotate_left; (· simp only [Act.put, List.setIfInBounds_toArray, List.set_cons_zero, List.set_cons_succ, i64_w, i32_w]; rfl)
      refine pure_ (i := 5) (N := some 20) (v := ?_) (a' := ?_) (bs 15 42) rfl rfl (by kernel_rfl) (fun _ _ _ h => h) (Or.inl ⟨by rfl, ?_⟩) ?_ ?_; rotate_left; (· intro w'; go_simp; first | done | with_reducible rfl); rotate_left; (· simp only [Act.put, List.setIfInBounds_toArray, List.set_cons_zero, List.set_cons_succ, i64_w, i32_w]; rfl)
      refine take_ (i := 2) (N := some 17) (v := ?_) (a' := ?_) (bs 15 46) rfl rfl (by kernel_rfl) (fun _ _ _ h => h) (Or.inl ⟨by rfl, ?_⟩) hHeld ?_ ?_; rotate_left; (· rintro w' ⟨s0, s1⟩; go_simp; first | done | with_reducible rfl); rotate_left; (· simp only [Act.put, List.setIfInBounds_toArray, List.set_cons_zero, List.set_cons_succ, i64_w, i32_w]; rfl)
      refine take_ (i := 6) (N := some 21) (v := ?_) (a' := ?_) (bs 15 110) rfl rfl (by kernel_rfl) (fun _ _ _ h => h) (Or.inl ⟨by rfl, ?_⟩) hHeld ?_ ?_; rotate_left; (· rintro w' ⟨s0, s1⟩; go_simp; first | done | with_reducible rfl); rotate_left; (· simp only [Act.put, List.setIfInBounds_toArray, List.set_cons_zero, List.set_cons_succ, i64_w, i32_w]; rfl)
      refine join_ (σ := Nat × Nat × Nat × Nat) 6 (bs 15 511) (fun (⟨g0, g4, g7, g8⟩) => [(15, .pointer (some ⟨g0, 0, none⟩)), (19, .pointer (some ⟨g4, 0, none⟩)), (22, .pointer (some ⟨g7, 0, none⟩)), (23, .pointer (some ⟨g8, 0, none⟩))]) (fun (⟨g0, g4, g7, g8⟩) w' => Dag w2 w' [(g0, none), (g4, some (n * s, 4)), (g7, some (d, 2)), (g8, none)]) ?_ (fun hq_0_4_7_8 => ?_)
      rotate_left
      ·
        refine join_ (σ := Nat × Nat × Nat × Nat) 7 (bs 15 383) (fun (⟨g0, g4, _, g8⟩) => [(15, .pointer (some ⟨g0, 0, none⟩)), (19, .pointer (some ⟨g4, 0, none⟩)), (23, .pointer (some ⟨g8, 0, none⟩))]) (fun (⟨g0, g4, _, g8⟩) w' => Dag w2 w' [(g0, none), (g4, some (n * s, 4)), (g8, none)]) ?_ (fun hq_0_4_8 => ?_)
        · rintro ⟨g0, g4, g7, g8⟩ w' hD
          refine norm_ (a' := ?_) ?_ ?_; rotate_left; (· simp only [putAll, Act.put, List.setIfInBounds_toArray, List.set_cons_zero, List.set_cons_succ, i64_w, i32_w]; rfl)
          refine one_ (i := 7) (N := some 22) (bs 15 511) rfl rfl (by kernel_rfl) (by decide) (fun K hK => ?_)
          ·
            refine goes_ Try.func69 (by kernel_rfl) rfl #[.int .i64 d] (by rfl) rfl rfl (by simp only [List.map_toArray, List.map_cons, List.map_nil]; rfl) ?_
            with_reducible refine (newInt_n d w' (by omega) (by omega)).mono ?_
            rintro e w9 ⟨g7, hg9, rfl, hb9, hN9⟩
            refine ⟨_, rfl, ?_⟩
            have hE := Dag.add [(g0, none), (g4, some (n * s, 4))] [(g8, none)] (k := some (d, 2)) hD hg9 hb9 hN9
            refine hK.out _ _ ⟨pw_cell_below (hE).b hc0, pw_cell_below (hE).b hc1⟩ (fun hHeld => ?_)
            clear hK K
            refine norm_ ?_ (hq_0_4_7_8 ⟨g0, g4, g7, g8⟩ _ hE); (· simp only [putAll, Act.put, List.setIfInBounds_toArray, List.set_cons_zero, List.set_cons_succ, i64_w, i32_w])
        refine join_ (σ := Nat × Nat × Nat × Nat) 7 (bs 15 510) (fun (⟨_, g4, g7, g8⟩) => [(19, .pointer (some ⟨g4, 0, none⟩)), (22, .pointer (some ⟨g7, 0, none⟩)), (23, .pointer (some ⟨g8, 0, none⟩))]) (fun (⟨_, g4, g7, g8⟩) w' => Dag w2 w' [(g4, some (n * s, 4)), (g7, some (d, 2)), (g8, none)]) ?_ (fun hq_4_7_8 => ?_)
        · rintro ⟨g0, g4, g7, g8⟩ w' hD
          refine norm_ (a' := ?_) ?_ ?_; rotate_left; (· simp only [putAll, Act.put, List.setIfInBounds_toArray, List.set_cons_zero, List.set_cons_succ, i64_w, i32_w]; rfl)
          refine one_ (i := 0) (N := some 15) (bs 15 511) rfl rfl (by kernel_rfl) (by decide) (fun K hK => ?_)
          ·
            refine value_ (v := .pointer (some ⟨w'.heap.size, 0, none⟩)) (w1 := w'.alloc (.cells #[.bool false, .slice none 0 0] 80)) (by rfl) rfl ?_ ?_
            · go_simp
            have hE := Dag.add [] [(g4, some (n * s, 4)), (g7, some (d, 2)), (g8, none)] (w' := w'.alloc (.cells #[.bool false, .slice none 0 0] 80)) (k := none) hD (Nat.le_refl _) (below_alloc (Below.refl _ _) _) (room_new _)
            refine hK.out _ _ ⟨pw_cell_below (hE).b hc0, pw_cell_below (hE).b hc1⟩ (fun hHeld => ?_)
            clear hK K
            refine norm_ ?_ (hq_0_4_7_8 ⟨w'.heap.size, g4, g7, g8⟩ _ hE); (· simp only [putAll, Act.put, List.setIfInBounds_toArray, List.set_cons_zero, List.set_cons_succ, i64_w, i32_w])
        refine join_ (σ := Nat × Nat × Nat × Nat) 7 (bs 15 255) (fun (⟨g0, g4, g7, _⟩) => [(15, .pointer (some ⟨g0, 0, none⟩)), (19, .pointer (some ⟨g4, 0, none⟩)), (22, .pointer (some ⟨g7, 0, none⟩))]) (fun (⟨g0, g4, g7, _⟩) w' => Dag w2 w' [(g0, none), (g4, some (n * s, 4)), (g7, some (d, 2))]) ?_ (fun hq_0_4_7 => ?_)
        · rintro ⟨g0, g4, g7, g8⟩ w' hD
          refine norm_ (a' := ?_) ?_ ?_; rotate_left; (· simp only [putAll, Act.put, List.setIfInBounds_toArray, List.set_cons_zero, List.set_cons_succ, i64_w, i32_w]; rfl)
          refine one_ (i := 8) (N := some 23) (bs 15 511) rfl rfl (by kernel_rfl) (by decide) (fun K hK => ?_)
          ·
            refine value_ (v := .pointer (some ⟨w'.heap.size, 0, none⟩)) (w1 := w'.alloc (.cells #[.bool false, .slice none 0 0] 80)) (by rfl) rfl ?_ ?_
            · go_simp
            have hE := Dag.add [(g0, none), (g4, some (n * s, 4)), (g7, some (d, 2))] [] (w' := w'.alloc (.cells #[.bool false, .slice none 0 0] 80)) (k := none) hD (Nat.le_refl _) (below_alloc (Below.refl _ _) _) (room_new _)
            refine hK.out _ _ ⟨pw_cell_below (hE).b hc0, pw_cell_below (hE).b hc1⟩ (fun hHeld => ?_)
            clear hK K
            refine norm_ ?_ (hq_0_4_7_8 ⟨g0, g4, g7, w'.heap.size⟩ _ hE); (· simp only [putAll, Act.put, List.setIfInBounds_toArray, List.set_cons_zero, List.set_cons_succ, i64_w, i32_w])
        refine join_ (σ := Nat × Nat × Nat × Nat) 8 (bs 15 367) (fun (⟨g0, _, _, g8⟩) => [(15, .pointer (some ⟨g0, 0, none⟩)), (23, .pointer (some ⟨g8, 0, none⟩))]) (fun (⟨g0, _, _, g8⟩) w' => Dag w2 w' [(g0, none), (g8, none)]) ?_ (fun hq_0_8 => ?_)
        · rintro ⟨g0, g4, g7, g8⟩ w' hD
          refine norm_ (a' := ?_) ?_ ?_; rotate_left; (· simp only [putAll, Act.put, List.setIfInBounds_toArray, List.set_cons_zero, List.set_cons_succ, i64_w, i32_w]; rfl)
          refine one_ (i := 4) (N := some 19) (bs 15 383) rfl rfl (by kernel_rfl) (by decide) (fun K hK => ?_)
          ·
            refine goes_ Try.func60 (by kernel_rfl) rfl #[.int .i64 n, .int .i64 s] (by rfl) rfl rfl (by simp only [List.map_toArray, List.map_cons, List.map_nil]; rfl) ?_
            with_reducible refine (product_n n s w' (by omega) (by omega) (by omega) (by omega)).mono ?_
            rintro e w9 ⟨g4, hg9, rfl, hb9, hN9⟩
            refine ⟨_, rfl, ?_⟩
            have hE := Dag.add [(g0, none)] [(g8, none)] (k := some (n * s, 4)) hD hg9 hb9 hN9
            refine hK.out _ _ ⟨pw_cell_below (hE).b hc0, pw_cell_below (hE).b hc1⟩ (fun hHeld => ?_)
            clear hK K
            refine norm_ ?_ (hq_0_4_8 ⟨g0, g4, 0, g8⟩ _ hE); (· simp only [putAll, Act.put, List.setIfInBounds_toArray, List.set_cons_zero, List.set_cons_succ, i64_w, i32_w])
        refine join_ (σ := Nat × Nat × Nat × Nat) 8 (bs 15 382) (fun (⟨_, g4, _, g8⟩) => [(19, .pointer (some ⟨g4, 0, none⟩)), (23, .pointer (some ⟨g8, 0, none⟩))]) (fun (⟨_, g4, _, g8⟩) w' => Dag w2 w' [(g4, some (n * s, 4)), (g8, none)]) ?_ (fun hq_4_8 => ?_)
        · rintro ⟨g0, g4, g7, g8⟩ w' hD
          refine norm_ (a' := ?_) ?_ ?_; rotate_left; (· simp only [putAll, Act.put, List.setIfInBounds_toArray, List.set_cons_zero, List.set_cons_succ, i64_w, i32_w]; rfl)
          refine two_ (i := 0) (j := 7) (Ni := some 15) (Nj := some 22) (bs 15 383) (bs 15 510) rfl rfl rfl rfl (by kernel_rfl) (by decide) (by decide) (fun K hK => ?_) (fun K hK => ?_)
          ·
            refine value_ (v := .pointer (some ⟨w'.heap.size, 0, none⟩)) (w1 := w'.alloc (.cells #[.bool false, .slice none 0 0] 80)) (by rfl) rfl ?_ ?_
            · go_simp
            have hE := Dag.add [] [(g4, some (n * s, 4)), (g8, none)] (w' := w'.alloc (.cells #[.bool false, .slice none 0 0] 80)) (k := none) hD (Nat.le_refl _) (below_alloc (Below.refl _ _) _) (room_new _)
            refine hK.out _ _ ⟨pw_cell_below (hE).b hc0, pw_cell_below (hE).b hc1⟩ (fun hHeld => ?_)
            clear hK K
            refine norm_ ?_ (hq_0_4_8 ⟨w'.heap.size, g4, 0, g8⟩ _ hE); (· simp only [putAll, Act.put, List.setIfInBounds_toArray, List.set_cons_zero, List.set_cons_succ, i64_w, i32_w])
          ·
            refine goes_ Try.func69 (by kernel_rfl) rfl #[.int .i64 d] (by rfl) rfl rfl (by simp only [List.map_toArray, List.map_cons, List.map_nil]; rfl) ?_
            with_reducible refine (newInt_n d w' (by omega) (by omega)).mono ?_
            rintro e w9 ⟨g7, hg9, rfl, hb9, hN9⟩
            refine ⟨_, rfl, ?_⟩
            have hE := Dag.add [(g4, some (n * s, 4))] [(g8, none)] (k := some (d, 2)) hD hg9 hb9 hN9
            refine hK.out _ _ ⟨pw_cell_below (hE).b hc0, pw_cell_below (hE).b hc1⟩ (fun hHeld => ?_)
            clear hK K
            refine norm_ ?_ (hq_4_7_8 ⟨0, g4, g7, g8⟩ _ hE); (· simp only [putAll, Act.put, List.setIfInBounds_toArray, List.set_cons_zero, List.set_cons_succ, i64_w, i32_w])
        refine join_ (σ := Nat × Nat × Nat × Nat) 8 (bs 15 127) (fun (⟨g0, g4, _, _⟩) => [(15, .pointer (some ⟨g0, 0, none⟩)), (19, .pointer (some ⟨g4, 0, none⟩))]) (fun (⟨g0, g4, _, _⟩) w' => Dag w2 w' [(g0, none), (g4, some (n * s, 4))]) ?_ (fun hq_0_4 => ?_)
        · rintro ⟨g0, g4, g7, g8⟩ w' hD
          refine norm_ (a' := ?_) ?_ ?_; rotate_left; (· simp only [putAll, Act.put, List.setIfInBounds_toArray, List.set_cons_zero, List.set_cons_succ, i64_w, i32_w]; rfl)
          refine two_ (i := 7) (j := 8) (Ni := some 22) (Nj := some 23) (bs 15 255) (bs 15 383) rfl rfl rfl rfl (by kernel_rfl) (by decide) (by decide) (fun K hK => ?_) (fun K hK => ?_)
          ·
            refine goes_ Try.func69 (by kernel_rfl) rfl #[.int .i64 d] (by rfl) rfl rfl (by simp only [List.map_toArray, List.map_cons, List.map_nil]; rfl) ?_
            with_reducible refine (newInt_n d w' (by omega) (by omega)).mono ?_
            rintro e w9 ⟨g7, hg9, rfl, hb9, hN9⟩
            refine ⟨_, rfl, ?_⟩
            have hE := Dag.add [(g0, none), (g4, some (n * s, 4))] [] (k := some (d, 2)) hD hg9 hb9 hN9
            refine hK.out _ _ ⟨pw_cell_below (hE).b hc0, pw_cell_below (hE).b hc1⟩ (fun hHeld => ?_)
            clear hK K
            refine norm_ ?_ (hq_0_4_7 ⟨g0, g4, g7, 0⟩ _ hE); (· simp only [putAll, Act.put, List.setIfInBounds_toArray, List.set_cons_zero, List.set_cons_succ, i64_w, i32_w])
          ·
            refine value_ (v := .pointer (some ⟨w'.heap.size, 0, none⟩)) (w1 := w'.alloc (.cells #[.bool false, .slice none 0 0] 80)) (by rfl) rfl ?_ ?_
            · go_simp
            have hE := Dag.add [(g0, none), (g4, some (n * s, 4))] [] (w' := w'.alloc (.cells #[.bool false, .slice none 0 0] 80)) (k := none) hD (Nat.le_refl _) (below_alloc (Below.refl _ _) _) (room_new _)
            refine hK.out _ _ ⟨pw_cell_below (hE).b hc0, pw_cell_below (hE).b hc1⟩ (fun hHeld => ?_)
            clear hK K
            refine norm_ ?_ (hq_0_4_8 ⟨g0, g4, 0, w'.heap.size⟩ _ hE); (· simp only [putAll, Act.put, List.setIfInBounds_toArray, List.set_cons_zero, List.set_cons_succ, i64_w, i32_w])
        refine join_ (σ := Nat × Nat × Nat × Nat) 8 (bs 15 254) (fun (⟨_, g4, g7, _⟩) => [(19, .pointer (some ⟨g4, 0, none⟩)), (22, .pointer (some ⟨g7, 0, none⟩))]) (fun (⟨_, g4, g7, _⟩) w' => Dag w2 w' [(g4, some (n * s, 4)), (g7, some (d, 2))]) ?_ (fun hq_4_7 => ?_)
        · rintro ⟨g0, g4, g7, g8⟩ w' hD
          refine norm_ (a' := ?_) ?_ ?_; rotate_left; (· simp only [putAll, Act.put, List.setIfInBounds_toArray, List.set_cons_zero, List.set_cons_succ, i64_w, i32_w]; rfl)
          refine two_ (i := 0) (j := 8) (Ni := some 15) (Nj := some 23) (bs 15 255) (bs 15 510) rfl rfl rfl rfl (by kernel_rfl) (by decide) (by decide) (fun K hK => ?_) (fun K hK => ?_)
          ·
            refine value_ (v := .pointer (some ⟨w'.heap.size, 0, none⟩)) (w1 := w'.alloc (.cells #[.bool false, .slice none 0 0] 80)) (by rfl) rfl ?_ ?_
            · go_simp
            have hE := Dag.add [] [(g4, some (n * s, 4)), (g7, some (d, 2))] (w' := w'.alloc (.cells #[.bool false, .slice none 0 0] 80)) (k := none) hD (Nat.le_refl _) (below_alloc (Below.refl _ _) _) (room_new _)
            refine hK.out _ _ ⟨pw_cell_below (hE).b hc0, pw_cell_below (hE).b hc1⟩ (fun hHeld => ?_)
            clear hK K
            refine norm_ ?_ (hq_0_4_7 ⟨w'.heap.size, g4, g7, 0⟩ _ hE); (· simp only [putAll, Act.put, List.setIfInBounds_toArray, List.set_cons_zero, List.set_cons_succ, i64_w, i32_w])
          ·
            refine value_ (v := .pointer (some ⟨w'.heap.size, 0, none⟩)) (w1 := w'.alloc (.cells #[.bool false, .slice none 0 0] 80)) (by rfl) rfl ?_ ?_
            · go_simp
            have hE := Dag.add [(g4, some (n * s, 4)), (g7, some (d, 2))] [] (w' := w'.alloc (.cells #[.bool false, .slice none 0 0] 80)) (k := none) hD (Nat.le_refl _) (below_alloc (Below.refl _ _) _) (room_new _)
            refine hK.out _ _ ⟨pw_cell_below (hE).b hc0, pw_cell_below (hE).b hc1⟩ (fun hHeld => ?_)
            clear hK K
            refine norm_ ?_ (hq_4_7_8 ⟨0, g4, g7, w'.heap.size⟩ _ hE); (· simp only [putAll, Act.put, List.setIfInBounds_toArray, List.set_cons_zero, List.set_cons_succ, i64_w, i32_w])
        refine join_ (σ := Nat × Nat × Nat × Nat) 9 (bs 15 111) (fun (⟨g0, _, _, _⟩) => [(15, .pointer (some ⟨g0, 0, none⟩))]) (fun (⟨g0, _, _, _⟩) w' => Dag w2 w' [(g0, none)]) ?_ (fun hq_0 => ?_)
        · rintro ⟨g0, g4, g7, g8⟩ w' hD
          refine norm_ (a' := ?_) ?_ ?_; rotate_left; (· simp only [putAll, Act.put, List.setIfInBounds_toArray, List.set_cons_zero, List.set_cons_succ, i64_w, i32_w]; rfl)
          refine two_ (i := 4) (j := 8) (Ni := some 19) (Nj := some 23) (bs 15 127) (bs 15 367) rfl rfl rfl rfl (by kernel_rfl) (by decide) (by decide) (fun K hK => ?_) (fun K hK => ?_)
          ·
            refine goes_ Try.func60 (by kernel_rfl) rfl #[.int .i64 n, .int .i64 s] (by rfl) rfl rfl (by simp only [List.map_toArray, List.map_cons, List.map_nil]; rfl) ?_
            with_reducible refine (product_n n s w' (by omega) (by omega) (by omega) (by omega)).mono ?_
            rintro e w9 ⟨g4, hg9, rfl, hb9, hN9⟩
            refine ⟨_, rfl, ?_⟩
            have hE := Dag.add [(g0, none)] [] (k := some (n * s, 4)) hD hg9 hb9 hN9
            refine hK.out _ _ ⟨pw_cell_below (hE).b hc0, pw_cell_below (hE).b hc1⟩ (fun hHeld => ?_)
            clear hK K
            refine norm_ ?_ (hq_0_4 ⟨g0, g4, 0, 0⟩ _ hE); (· simp only [putAll, Act.put, List.setIfInBounds_toArray, List.set_cons_zero, List.set_cons_succ, i64_w, i32_w])
          ·
            refine value_ (v := .pointer (some ⟨w'.heap.size, 0, none⟩)) (w1 := w'.alloc (.cells #[.bool false, .slice none 0 0] 80)) (by rfl) rfl ?_ ?_
            · go_simp
            have hE := Dag.add [(g0, none)] [] (w' := w'.alloc (.cells #[.bool false, .slice none 0 0] 80)) (k := none) hD (Nat.le_refl _) (below_alloc (Below.refl _ _) _) (room_new _)
            refine hK.out _ _ ⟨pw_cell_below (hE).b hc0, pw_cell_below (hE).b hc1⟩ (fun hHeld => ?_)
            clear hK K
            refine norm_ ?_ (hq_0_8 ⟨g0, 0, 0, w'.heap.size⟩ _ hE); (· simp only [putAll, Act.put, List.setIfInBounds_toArray, List.set_cons_zero, List.set_cons_succ, i64_w, i32_w])
        refine join_ (σ := Nat × Nat × Nat × Nat) 9 (bs 15 126) (fun (⟨_, g4, _, _⟩) => [(19, .pointer (some ⟨g4, 0, none⟩))]) (fun (⟨_, g4, _, _⟩) w' => Dag w2 w' [(g4, some (n * s, 4))]) ?_ (fun hq_4 => ?_)
        · rintro ⟨g0, g4, g7, g8⟩ w' hD
          refine norm_ (a' := ?_) ?_ ?_; rotate_left; (· simp only [putAll, Act.put, List.setIfInBounds_toArray, List.set_cons_zero, List.set_cons_succ, i64_w, i32_w]; rfl)
          refine three_ (i := 0) (j := 7) (k := 8) (Ni := some 15) (Nj := some 22) (Nk := some 23) (bs 15 127) (bs 15 254) (bs 15 382) rfl rfl rfl rfl rfl rfl (by kernel_rfl) (by decide) (by decide) (by decide) (fun K hK => ?_) (fun K hK => ?_) (fun K hK => ?_)
          ·
            refine value_ (v := .pointer (some ⟨w'.heap.size, 0, none⟩)) (w1 := w'.alloc (.cells #[.bool false, .slice none 0 0] 80)) (by rfl) rfl ?_ ?_
            · go_simp
            have hE := Dag.add [] [(g4, some (n * s, 4))] (w' := w'.alloc (.cells #[.bool false, .slice none 0 0] 80)) (k := none) hD (Nat.le_refl _) (below_alloc (Below.refl _ _) _) (room_new _)
            refine hK.out _ _ ⟨pw_cell_below (hE).b hc0, pw_cell_below (hE).b hc1⟩ (fun hHeld => ?_)
            clear hK K
            refine norm_ ?_ (hq_0_4 ⟨w'.heap.size, g4, 0, 0⟩ _ hE); (· simp only [putAll, Act.put, List.setIfInBounds_toArray, List.set_cons_zero, List.set_cons_succ, i64_w, i32_w])
          ·
            refine goes_ Try.func69 (by kernel_rfl) rfl #[.int .i64 d] (by rfl) rfl rfl (by simp only [List.map_toArray, List.map_cons, List.map_nil]; rfl) ?_
            with_reducible refine (newInt_n d w' (by omega) (by omega)).mono ?_
            rintro e w9 ⟨g7, hg9, rfl, hb9, hN9⟩
            refine ⟨_, rfl, ?_⟩
            have hE := Dag.add [(g4, some (n * s, 4))] [] (k := some (d, 2)) hD hg9 hb9 hN9
            refine hK.out _ _ ⟨pw_cell_below (hE).b hc0, pw_cell_below (hE).b hc1⟩ (fun hHeld => ?_)
            clear hK K
            refine norm_ ?_ (hq_4_7 ⟨0, g4, g7, 0⟩ _ hE); (· simp only [putAll, Act.put, List.setIfInBounds_toArray, List.set_cons_zero, List.set_cons_succ, i64_w, i32_w])
          ·
            refine value_ (v := .pointer (some ⟨w'.heap.size, 0, none⟩)) (w1 := w'.alloc (.cells #[.bool false, .slice none 0 0] 80)) (by rfl) rfl ?_ ?_
            · go_simp
            have hE := Dag.add [(g4, some (n * s, 4))] [] (w' := w'.alloc (.cells #[.bool false, .slice none 0 0] 80)) (k := none) hD (Nat.le_refl _) (below_alloc (Below.refl _ _) _) (room_new _)
            refine hK.out _ _ ⟨pw_cell_below (hE).b hc0, pw_cell_below (hE).b hc1⟩ (fun hHeld => ?_)
            clear hK K
            refine norm_ ?_ (hq_4_8 ⟨0, g4, 0, w'.heap.size⟩ _ hE); (· simp only [putAll, Act.put, List.setIfInBounds_toArray, List.set_cons_zero, List.set_cons_succ, i64_w, i32_w])
        refine join_ (σ := Nat × Nat × Nat × Nat) 9 (bs 15 366) (fun (⟨_, _, _, g8⟩) => [(23, .pointer (some ⟨g8, 0, none⟩))]) (fun (⟨_, _, _, g8⟩) w' => Dag w2 w' [(g8, none)]) ?_ (fun hq_8 => ?_)
        · rintro ⟨g0, g4, g7, g8⟩ w' hD
          refine norm_ (a' := ?_) ?_ ?_; rotate_left; (· simp only [putAll, Act.put, List.setIfInBounds_toArray, List.set_cons_zero, List.set_cons_succ, i64_w, i32_w]; rfl)
          refine two_ (i := 0) (j := 4) (Ni := some 15) (Nj := some 19) (bs 15 367) (bs 15 382) rfl rfl rfl rfl (by kernel_rfl) (by decide) (by decide) (fun K hK => ?_) (fun K hK => ?_)
          ·
            refine value_ (v := .pointer (some ⟨w'.heap.size, 0, none⟩)) (w1 := w'.alloc (.cells #[.bool false, .slice none 0 0] 80)) (by rfl) rfl ?_ ?_
            · go_simp
            have hE := Dag.add [] [(g8, none)] (w' := w'.alloc (.cells #[.bool false, .slice none 0 0] 80)) (k := none) hD (Nat.le_refl _) (below_alloc (Below.refl _ _) _) (room_new _)
            refine hK.out _ _ ⟨pw_cell_below (hE).b hc0, pw_cell_below (hE).b hc1⟩ (fun hHeld => ?_)
            clear hK K
            refine norm_ ?_ (hq_0_8 ⟨w'.heap.size, 0, 0, g8⟩ _ hE); (· simp only [putAll, Act.put, List.setIfInBounds_toArray, List.set_cons_zero, List.set_cons_succ, i64_w, i32_w])
          ·
            refine goes_ Try.func60 (by kernel_rfl) rfl #[.int .i64 n, .int .i64 s] (by rfl) rfl rfl (by simp only [List.map_toArray, List.map_cons, List.map_nil]; rfl) ?_
            with_reducible refine (product_n n s w' (by omega) (by omega) (by omega) (by omega)).mono ?_
            rintro e w9 ⟨g4, hg9, rfl, hb9, hN9⟩
            refine ⟨_, rfl, ?_⟩
            have hE := Dag.add [] [(g8, none)] (k := some (n * s, 4)) hD hg9 hb9 hN9
            refine hK.out _ _ ⟨pw_cell_below (hE).b hc0, pw_cell_below (hE).b hc1⟩ (fun hHeld => ?_)
            clear hK K
            refine norm_ ?_ (hq_4_8 ⟨0, g4, 0, g8⟩ _ hE); (· simp only [putAll, Act.put, List.setIfInBounds_toArray, List.set_cons_zero, List.set_cons_succ, i64_w, i32_w])
        have hD := Dag.start w2
        refine three_ (i := 0) (j := 4) (k := 8) (Ni := some 15) (Nj := some 19) (Nk := some 23) (bs 15 111) (bs 15 126) (bs 15 366) rfl rfl rfl rfl rfl rfl (by kernel_rfl) (by decide) (by decide) (by decide) (fun K hK => ?_) (fun K hK => ?_) (fun K hK => ?_)
        ·
          refine value_ (v := .pointer (some ⟨w2.drew.heap.size, 0, none⟩)) (w1 := w2.drew.alloc (.cells #[.bool false, .slice none 0 0] 80)) (by rfl) rfl ?_ ?_
          · go_simp
          have hE := Dag.add [] [] (w' := w2.drew.alloc (.cells #[.bool false, .slice none 0 0] 80)) (k := none) hD (Nat.le_refl _) (below_alloc (Below.refl _ _) _) (room_new _)
          refine hK.out _ _ ⟨pw_cell_below (hE).b hc0, pw_cell_below (hE).b hc1⟩ (fun hHeld => ?_)
          clear hK K
          refine norm_ ?_ (hq_0 ⟨w2.drew.heap.size, 0, 0, 0⟩ _ hE); (· simp only [putAll, Act.put, List.setIfInBounds_toArray, List.set_cons_zero, List.set_cons_succ, i64_w, i32_w])
        ·
          refine goes_ Try.func60 (by kernel_rfl) rfl #[.int .i64 n, .int .i64 s] (by rfl) rfl rfl (by simp only [List.map_toArray, List.map_cons, List.map_nil]; rfl) ?_
          with_reducible refine (product_n n s w2.drew (by omega) (by omega) (by omega) (by omega)).mono ?_
          rintro e w9 ⟨g4, hg9, rfl, hb9, hN9⟩
          refine ⟨_, rfl, ?_⟩
          have hE := Dag.add [] [] (k := some (n * s, 4)) hD hg9 hb9 hN9
          refine hK.out _ _ ⟨pw_cell_below (hE).b hc0, pw_cell_below (hE).b hc1⟩ (fun hHeld => ?_)
          clear hK K
          refine norm_ ?_ (hq_4 ⟨0, g4, 0, 0⟩ _ hE); (· simp only [putAll, Act.put, List.setIfInBounds_toArray, List.set_cons_zero, List.set_cons_succ, i64_w, i32_w])
        ·
          refine value_ (v := .pointer (some ⟨w2.drew.heap.size, 0, none⟩)) (w1 := w2.drew.alloc (.cells #[.bool false, .slice none 0 0] 80)) (by rfl) rfl ?_ ?_
          · go_simp
          have hE := Dag.add [] [] (w' := w2.drew.alloc (.cells #[.bool false, .slice none 0 0] 80)) (k := none) hD (Nat.le_refl _) (below_alloc (Below.refl _ _) _) (room_new _)
          refine hK.out _ _ ⟨pw_cell_below (hE).b hc0, pw_cell_below (hE).b hc1⟩ (fun hHeld => ?_)
          clear hK K
          refine norm_ ?_ (hq_8 ⟨0, 0, 0, w2.drew.heap.size⟩ _ hE); (· simp only [putAll, Act.put, List.setIfInBounds_toArray, List.set_cons_zero, List.set_cons_succ, i64_w, i32_w])
      rintro ⟨g0, g4, g7, g8⟩ w' hD
      refine norm_ (a' := ?_) ?_ ?_; rotate_left; (· simp only [putAll, Act.put, List.setIfInBounds_toArray, List.set_cons_zero, List.set_cons_succ, i64_w, i32_w]; rfl)
      have hHeld : w'.cell? ⟨w.heap.size, 0, none⟩ = some (.int .i64 n) ∧ w'.cell? ⟨w.heap.size, 1, none⟩ = some (.int .i64 d) := ⟨pw_cell_below (hD).b hc0, pw_cell_below (hD).b hc1⟩
      refine one_ (i := 9) (N := some 24) (bs 15 1023) rfl rfl (by kernel_rfl) (by decide) (fun K hK => ?_)
      refine goes_ Try.func72 (by kernel_rfl) rfl #[.pointer (some ⟨g0, 0, none⟩), .pointer (some ⟨g4, 0, none⟩), .pointer (some ⟨g7, 0, none⟩), .pointer (some ⟨g8, 0, none⟩)] (by rfl) rfl rfl (by simp only [List.map_toArray, List.map_cons, List.map_nil]; rfl) ?_
      with_reducible refine (quoRem_n g0 0 g4 0 g7 0 g8 0 (n * s) d 4 2 w2.heap.size w' (hD.room (by simp)) (hD.num (by simp)) (hD.num (by simp)) (hD.room (by simp)) (fun e => (by have := hD.ne; simp at this; omega)) (by omega) (by decide) (hD.new (g0, none) (by simp)) (hD.new (g8, none) (by simp))).mono ?_
      rintro e w5 ⟨rfl, hb5, hq5, hr5, _⟩
      refine ⟨_, rfl, ?_⟩
      have hb25 := hD.b.trans hb5
      refine hK.out _ _ ⟨pw_cell_below hb25 hc0, pw_cell_below hb25 hc1⟩ (fun hHeld => ?_)
      clear hK K
      refine norm_ (a' := ?_) ?_ ?_; rotate_left; (· show Act.put _ (some 24) _ = _; simp only [Act.put, List.setIfInBounds_toArray, List.set_cons_zero, List.set_cons_succ, i64_w, i32_w]; rfl)
      refine pure_ (i := 10) (N := some 14) (v := ?_) (a' := ?_) (bs 15 2047) rfl rfl (by kernel_rfl) (fun _ _ _ h => h) (Or.inl ⟨by rfl, ?_⟩) ?_ ?_; rotate_left; (· intro w'; go_simp; first | done | with_reducible rfl); rotate_left; (· simp only [Act.put, List.setIfInBounds_toArray, List.set_cons_zero, List.set_cons_succ, i64_w, i32_w]; rfl)
      refine pure_ (i := 11) (N := some 25) (v := ?_) (a' := ?_) (bs 15 4095) rfl rfl (by kernel_rfl) (fun _ _ _ h => h) (Or.inl ⟨by rfl, ?_⟩) ?_ ?_; rotate_left; (· intro w'; go_simp; first | done | with_reducible rfl); rotate_left; (· simp only [Act.put, List.setIfInBounds_toArray, List.set_cons_zero, List.set_cons_succ, i64_w, i32_w]; rfl)
      refine pure_ (i := 12) (N := some 26) (v := ?_) (a' := ?_) (bs 15 8191) rfl rfl (by kernel_rfl) (fun _ _ _ h => h) (Or.inl ⟨by rfl, ?_⟩) ?_ ?_; rotate_left; (· intro w'; go_simp; first | done | with_reducible rfl); rotate_left; (· simp only [Act.put, List.setIfInBounds_toArray, List.set_cons_zero, List.set_cons_succ, i64_w, i32_w]; rfl)
      refine pure_ (i := 13) (N := some 6) (v := ?_) (a' := ?_) (bs 15 16383) rfl rfl (by kernel_rfl) (fun _ _ _ h => h) (Or.inl ⟨by rfl, ?_⟩) ?_ ?_; rotate_left; (· intro w'; go_simp; first | done | with_reducible rfl); rotate_left; (· simp only [Act.put, List.setIfInBounds_toArray, List.set_cons_zero, List.set_cons_succ, i64_w, i32_w]; rfl)
      refine pure_ (i := 14) (N := some 7) (v := ?_) (a' := ?_) (bs 15 32767) rfl rfl (by kernel_rfl) (fun _ _ _ h => h) (Or.inl ⟨by rfl, ?_⟩) ?_ ?_; rotate_left; (· intro w'; go_simp; first | done | with_reducible rfl); rotate_left; (· simp only [Act.put, List.setIfInBounds_toArray, List.set_cons_zero, List.set_cons_succ, i64_w, i32_w]; rfl)
      refine done_ (by kernel_rfl) ?_
      rw [HQ.out.1] at hq5
      rw [HQ.out.2.1] at hr5
      have HB6 := Aside0.mk (HB2.out.trans (hb25.mono HB2.out.size))
      have H6 := Aside0.mk (And.intro hq5 hr5)
      clear hq5 hr5 hb25 hb5 hD hHeld hc0 hc1 hbk2 HB2
      go_wp2_with fail
      refine (signI_n g8 0 r _ w5 H6.out.2).mono ?_
      rintro e w7 ⟨rfl, hb7⟩
      have HB7 := Aside0.mk (HB6.out.trans (hb7.mono HB6.out.size))
      have H7 := Aside0.mk (H6.out.1.below hb7)
      clear hb7 HB6 H6
      by_cases hr0 : r = 0
      · have e1 : cmpI r 0 = 0 := by subst hr0; rfl
        have HV := Aside0.mk (show V = if big q then two (.int .i64 0) (er 2) else two (.int .i64 q) (er 0) by rw [HQ.out.2.2, if_pos hr0])
        rw [e1]
        clear e1 hr0
        go_wp2_with fail
        refine (newInt_n 1099511627776 w7 (by decide) (by decide)).mono ?_
        rintro e w8 ⟨g9, hg9, rfl, hb8, hN8⟩
        have HB8 := Aside0.mk (HB7.out.trans (hb8.mono HB7.out.size))
        have H8 := Aside0.mk (And.intro (H7.out.below hb8) hN8)
        clear hb8 hN8 HB7 H7
        go_wp2_with fail
        refine (cmpAbs_n g0 0 g9 0 q 1099511627776 _ _ w8 H8.out.1 H8.out.2 (by decide)).mono ?_
        rintro e w9 ⟨rfl, hb9⟩
        have HB9 := Aside0.mk (HB8.out.trans (hb9.mono HB8.out.size))
        have H9 := Aside0.mk (H8.out.1.below hb9)
        clear hb9 HB8 H8
        by_cases hbig : 1099511627776 < (q.natAbs : Int)
        · have e1 : big q = true := decide_eq_true hbig
          have e2 : cmpI (q.natAbs : Int) ((1099511627776 : Int).natAbs : Int) = 1 := by unfold cmpI; rw [if_neg (by simp; omega), if_pos (by simpa using hbig)]
          have HV2 := Aside0.mk (show V = .tuple #[.int .i64 0, .int .i64 2] by rw [HV.out, e1]; rfl)
          rw [e2]
          clear e1 e2
          go_wp2_with fail
          go_ret2
          exact ⟨by rw [HV2.out]; rfl, HB9.out⟩
        · have e1 : big q = false := decide_eq_false hbig
          have e2 : ∃ c : Int, c ≤ 0 ∧ cmpI (q.natAbs : Int) ((1099511627776 : Int).natAbs : Int) = c := by
            refine ⟨_, ?_, rfl⟩
            unfold cmpI
            split
            · decide
            · rw [if_neg (by simpa using hbig)]; decide
          obtain ⟨c, hc, e2⟩ := e2
          have HV2 := Aside0.mk (show V = .tuple #[.int .i64 q, .int .i64 0] by rw [HV.out, e1]; rfl)
          rw [e2]
          clear e1 e2
          go_wp2_with fail
          refine (int64_n g0 0 q _ w9 H9.out (by omega) (by omega) (by decide)).mono ?_
          rintro e w10 ⟨rfl, hb10⟩
          go_wp2_with fail
          go_ret2
          exact ⟨by rw [HV2.out]; rfl, HB9.out.trans (hb10.mono HB9.out.size)⟩
      · have e1 : ∃ c : Int, (c == 0) = false ∧ cmpI r 0 = c := by
          refine ⟨_, ?_, rfl⟩
          unfold cmpI
          split
          · rfl
          · rw [if_pos (by omega)]; rfl
        obtain ⟨c, hc, e1⟩ := e1
        have hc2 : (c != 0) = true := by simpa using hc
        have HV := Aside0.mk (show V = .tuple #[.int .i64 0, .int .i64 20] by rw [HQ.out.2.2, if_neg hr0]; rfl)
        rw [e1]
        clear e1 hr0
        go_wp2_with fail
        go_ret2
        exact ⟨by rw [HV.out]; rfl, HB7.out⟩
end Go.Proofs.Ytdginjpppgfdaaa.Eg

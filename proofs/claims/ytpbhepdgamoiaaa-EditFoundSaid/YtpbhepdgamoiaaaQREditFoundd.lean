/-
  edit.Back: the walk.
-/
import Derived.Test.YtpbhepdgamoiaaaQREditFounda
import Derived.Test.YtpbhepdgamoiaaaQREditFoundc
import Derived.Outline
namespace Go.Proofs.Ytpbhepdgamoiaaa.E
open Go.Proofs.Ytpbhepdgamoiaaa.Z Go.RowKit Go.Proofs.YtpbhepdgamoiaaaW.PrintWords Go.Proofs.YtpbhepdgamoiaaaW.PrintLast Go.Proofs.YtpbhepdgamoiaaaW.PrintMore
attribute [local go_sem] max2_int min2_int max_two min_two max_three min_three max_four min_four
set_option linter.unusedVariables false
set_option linter.unusedSimpArgs false
mutual
def edit_clocks_normal.l0 : Nat → List (S77) → Int → List (S77) → Int → Int → Int → Int → Option ((List (S77)) × Int)
  | 0, _, _, _, _, _, _, _ => none
  | k + 1, x6, x7, x11, x12, x13, x113000, x113001 => if x13 < x12 then (if 0 ≤ x13 then (if x13 < (x11.length : Int) then ((edit_lowest.f ((rd_T77 x11 x13).f0) ((rd_T77 x11 x13).f1) ((rd_T77 x11 x13).f2) ((rd_T77 x11 x13).f3)).bind fun bt115 => (if (wrap64 (x7 + bt115.1)) > 1099511627776 then (some (([] : List (S77)), 2)) else (edit_clocks_normal.l1 k x6 (wrap64 (x7 + bt115.1)) (x6.length : Int) x11 x12 x13 x113000 x113001 bt115.1 bt115.2.1 bt115.2.2.1 bt115.2.2.2))) else (none)) else (none)) else (if (x6.length : Int) > 20 then (some (([] : List (S77)), 2)) else (some (x6, 0)))
def edit_clocks_normal.l1 : Nat → List (S77) → Int → Int → List (S77) → Int → Int → Int → Int → Int → Int → Int → Int → Option ((List (S77)) × Int)
  | 0, _, _, _, _, _, _, _, _, _, _, _, _ => none
  | k + 1, x6, x7, x10, x11, x12, x13, x113000, x113001, x115000, x115001, x115002, x115003 => if x10 > 0 then (if 0 ≤ (wrap64 (x10 - 1)) then (if (wrap64 (x10 - 1)) < (x6.length : Int) then ((edit_clocks_over.f x113000 x113001 ((rd_T77 x6 (wrap64 (x10 - 1))).f0) ((rd_T77 x6 (wrap64 (x10 - 1))).f1) ((rd_T77 x6 (wrap64 (x10 - 1))).f2) ((rd_T77 x6 (wrap64 (x10 - 1))).f3) x115000 x115001 x115002 x115003).bind fun t120 => (if t120 = true then (edit_clocks_normal.l0 k (x6.set ((wrap64 (x10 - 1)) : Int).toNat (⟨wrap64 (((rd_T77 x6 (wrap64 (x10 - 1))).f0) + x115000), (rd_T77 x6 (wrap64 (x10 - 1))).f1, (rd_T77 x6 (wrap64 (x10 - 1))).f2, (rd_T77 x6 (wrap64 (x10 - 1))).f3⟩ : S77)) x7 x11 x12 (wrap64 (x13 + 1)) x113000 x113001) else (if x6.length < 4398046511104 then (edit_clocks_normal.l0 k (x6 ++ [(⟨x115000, x115001, x115002, x115003⟩ : S77)]) x7 x11 x12 (wrap64 (x13 + 1)) x113000 x113001) else (none)))) else (none)) else (none)) else (if x6.length < 4398046511104 then (edit_clocks_normal.l0 k (x6 ++ [(⟨x115000, x115001, x115002, x115003⟩ : S77)]) x7 x11 x12 (wrap64 (x13 + 1)) x113000 x113001) else (none))
end
def edit_clocks_normal.f (k : Nat) (a0_0 : Int) (a0_1 : Int) (l1 : List (S77)) : Option ((List (S77)) × Int) := edit_clocks_normal.l0 k ([] : List (S77)) 0 l1 (l1.length : Int) 0 a0_0 a0_1
set_option maxHeartbeats 8000000 in
set_option maxRecDepth 100000 in
theorem edit_clocks_normal.calls (k : Nat) (a0_0 : Int) (a0_1 : Int) (A1 : Option Addr) (c1 : Nat) (l1 : List (S77)) (r1 : List (S77)) (r2 : Int) (w : World) (hr1 : Kd.C k77 w A1 l1.length l1) (hc1 : l1.length ≤ c1) (h : edit_clocks_normal.f k a0_0 a0_1 l1 = some (r1, r2)) :
  Calls Try.prog 57 #[.agg #[.int .i64 a0_0, .int .i64 a0_1], .slice A1 l1.length c1] w fun e w' => ∃ v0_ : Value, e = .returned (.tuple #[v0_, .int .i64 r2]) ∧ Kd.R k77 77 w' w.heap.size (fun _ => True) v0_ r1 ∧ Below w.heap.size w w' := by
 have hu79 := Try.underlying79; have hu77 := Try.underlying77; have HR1 := Aside0.mk hr1; have HC1 := Aside0.mk hc1; clear hr1 hc1; have HB := Aside0.mk (Below.refl w.heap.size w); have H : (edit_clocks_normal.l0 k ([] : List (S77)) 0 l1 (l1.length : Int) 0 a0_0 a0_1) = some (r1, r2) := h; clear h; have H' := Aside0.mk H; clear H
 go_enter Try.func57, Try.ntmps57
 go_wp2_with (first | ((with_reducible refine gate_dst (N := 2) rfl ?_); refine zB 2 79 #[.int .i64 a0_0, .int .i64 a0_1] ?_; intro gb112 hg w3 hbox hb; have BK112 := Aside0.mk hbox; have GW112 := gz hg; have GE112 := gz hg; replace HB := bp hb; clear hb hbox hg))
 go_step3
 go_wp2
 go_step3
 go_wp2
 go_loopg [6, 7, 13] k (fun kq v6 v7 v13 w' => ∃ (x6_1 : List (S77)) (x7_1 : Int) (x13_1 : Int), v7 = .int .i64 x7_1 ∧ v13 = .int .i64 x13_1 ∧ Aside0 (edit_clocks_normal.l0 kq x6_1 x7_1 l1 (l1.length : Int) x13_1 a0_0 a0_1 = some (r1, r2)) ∧ Aside0 (kq ≤ k) ∧ Aside0 (Kd.R k77 77 w' w.heap.size (fun _ => True) v6 x6_1) ∧ Aside0 (w'.heap[gb112]? = some (.cells #[.int .i64 a0_0, .int .i64 a0_1] 79 (0, 0))) ∧ Aside0 (Below w.heap.size w w'))
 case atStart => exact ⟨(([] : List (S77))), (0), (0), jz, jz, H', ⟨Nat.le_refl _⟩, ⟨by first | exact Kd.R_nil _ _ _ _ _ | exact Kd.N_nil _ _ _ _ _ | exact Kd.V_nil _ _ _ _ _ | exact Kd.Q_nil _ _ _ _ _ | exact Kd.S_nil _ _ _ _ _⟩, ⟨kz⟩, ⟨bz⟩⟩
 case round =>
  clear H'
  try clear c1
  try clear p2
  obtain ⟨x6_1, x7_1, x13_1, rfl, rfl, HA, HK1, HO_6, BK112, HB⟩ := hrel
  cases gk with
  | zero => exact absurd HA.out (by simp [edit_clocks_normal.l0])
  | succ k1 =>
   have H := HA.out; clear HA; simp only [edit_clocks_normal.l0] at H
   by_cases c4 : x13_1 < (l1.length : Int)
   ·rw [if_pos c4] at H; have c4b0 : decide (x13_1 < (l1.length : Int)) = true := decide_eq_true c4; clear c4
    by_cases c5 : 0 ≤ x13_1
    ·rw [if_pos c5] at H; have c5b0 : decide (0 ≤ x13_1) = true := decide_eq_true c5; clear c5
     by_cases c6 : x13_1 < (l1.length : Int)
     ·rw [if_pos c6] at H; have c6b0 : decide (x13_1 < (l1.length : Int)) = true := decide_eq_true c6; clear c6; obtain ⟨⟨t115, t116, t117, t118⟩, A7, H⟩ := ob H
      (try dsimp only at H)
      by_cases c8 : (wrap64 (x7_1 + t115)) > 1099511627776
      ·rw [if_pos c8] at H; have c8b0 : decide (1099511627776 < (wrap64 (x7_1 + t115))) = true := decide_eq_true c8; clear c8; simp only [Option.some.injEq, Prod.mk.injEq] at H; obtain ⟨rfl, rfl⟩ := H; have p113 : 0 ≤ (x13_1 : Int) := od; have q113 : x13_1 < (l1.length : Int) := od; obtain ⟨ad113, e113, hx113_0, hx113_1, hx113_2, hx113_3⟩ := at_T77 HR1.out x13_1 p113 q113
       cases e113
       replace hx113_0 := cl HB hx113_0; replace hx113_1 := cl HB hx113_1; replace hx113_2 := cl HB hx113_2; replace hx113_3 := cl HB hx113_3; replace p113 := eq_true p113; replace q113 := eq_true q113
       go_wp2_with (first | ((with_reducible refine gate_dst (N := 9) rfl ?_); refine zB 9 77 #[.int .i64 0, .int .i64 0, .int .i64 0, .int .i64 0] ?_; intro gb114 hg w9 hbox hb; replace HO_6 := Aside0.mk (Kd.R_below (Kd.R_elderB (rz HO_6) gb114 (Nat.le_of_eq hg.symm)) hb); have BK114 := Aside0.mk hbox; have GW114 := gz hg; have GE114 := gz hg; replace HB := bp hb; have NB112_114 := Aside0.mk ((by rw [hg]; exact Nat.ne_of_lt (bl BK112) : gb112 ≠ gb114)); have NB114_112 := Aside0.mk ((by rw [hg]; exact Nat.ne_of_gt (bl BK112) : gb114 ≠ gb112)); replace BK112 := kb BK112 hb; clear hb hbox hg; have hnb10 := NB114_112.out; have hnc10 := NB112_114.out; obtain ⟨hcz11_0, hcz11_1, hcz11_2, hcz11_3, hfz11_0, hfz11_1, hfz11_2, hfz11_3⟩ := xc4 BK114) | ((with_reducible refine gate_callee (f := 71) rfl ?_); refine zC 18 Try.func71 #[.agg #[.int .i64 ((rd_T77 l1 x13_1).f0), .int .i64 ((rd_T77 l1 x13_1).f1), .int .i64 ((rd_T77 l1 x13_1).f2), .int .i64 ((rd_T77 l1 x13_1).f3)]] ?_; (with_reducible refine (edit_lowest.calls ((rd_T77 l1 x13_1).f0) ((rd_T77 l1 x13_1).f1) ((rd_T77 l1 x13_1).f2) ((rd_T77 l1 x13_1).f3) t115 t116 t117 t118 _ A7.out).mono ?_); rintro e w12 ⟨rfl, hb⟩; refine ⟨_, rfl, ?_⟩; replace HO_6 := Aside0.mk (Kd.R_below (by (with_reducible repeat (first | apply Kd.R_alloc | apply Kd.R_drewN | apply Kd.R_drew)); exact (Kd.R_mono (Kd.R_far (p := ⟨gb114, 3, none⟩) (Kd.R_far (p := ⟨gb114, 2, none⟩) (Kd.R_far (p := ⟨gb114, 1, none⟩) (Kd.R_far (p := ⟨gb114, 0, none⟩) (Kd.R_mono HO_6.out (fun k_ hk => (⟨hk, hk.2⟩ : _ ∧ k_ ≠ gb114))) (fun _ hk => hk.2) (.int .i64 ((rd_T77 l1 x13_1).f0))) (fun _ hk => hk.2) (.int .i64 ((rd_T77 l1 x13_1).f1))) (fun _ hk => hk.2) (.int .i64 ((rd_T77 l1 x13_1).f2))) (fun _ hk => hk.2) (.int .i64 ((rd_T77 l1 x13_1).f3))) (fun _ h_ => h_.1))) hb); replace BK112 := Aside0.mk (blk_below (g := gb112) (o := .cells #[.int .i64 a0_0, .int .i64 a0_1] 79 (0, 0)) (by (with_reducible repeat (first | refine blk_drewN ?_ _ | refine blk_drew ?_ | refine blk_alloc ?_ _)); refine blk_far ?_ NB112_114.out _; (with_reducible repeat (first | refine blk_drewN ?_ _ | refine blk_drew ?_ | refine blk_alloc ?_ _)); refine blk_far ?_ NB112_114.out _; (with_reducible repeat (first | refine blk_drewN ?_ _ | refine blk_drew ?_ | refine blk_alloc ?_ _)); refine blk_far ?_ NB112_114.out _; (with_reducible repeat (first | refine blk_drewN ?_ _ | refine blk_drew ?_ | refine blk_alloc ?_ _)); refine blk_far ?_ NB112_114.out _; (with_reducible repeat (first | refine blk_drewN ?_ _ | refine blk_drew ?_ | refine blk_alloc ?_ _)); exact BK112.out) hb); replace BK114 := Aside0.mk (blk_below (g := gb114) (o := .cells #[.int .i64 ((rd_T77 l1 x13_1).f0), .int .i64 ((rd_T77 l1 x13_1).f1), .int .i64 ((rd_T77 l1 x13_1).f2), .int .i64 ((rd_T77 l1 x13_1).f3)] 77 (0, 0)) (by (with_reducible repeat (first | refine blk_drewN ?_ _ | refine blk_drew ?_ | refine blk_alloc ?_ _)); refine blk_put (cs := #[.int .i64 ((rd_T77 l1 x13_1).f0), .int .i64 ((rd_T77 l1 x13_1).f1), .int .i64 ((rd_T77 l1 x13_1).f2), .int .i64 0]) ?_ 3 _ rfl; (with_reducible repeat (first | refine blk_drewN ?_ _ | refine blk_drew ?_ | refine blk_alloc ?_ _)); refine blk_put (cs := #[.int .i64 ((rd_T77 l1 x13_1).f0), .int .i64 ((rd_T77 l1 x13_1).f1), .int .i64 0, .int .i64 0]) ?_ 2 _ rfl; (with_reducible repeat (first | refine blk_drewN ?_ _ | refine blk_drew ?_ | refine blk_alloc ?_ _)); refine blk_put (cs := #[.int .i64 ((rd_T77 l1 x13_1).f0), .int .i64 0, .int .i64 0, .int .i64 0]) ?_ 1 _ rfl; (with_reducible repeat (first | refine blk_drewN ?_ _ | refine blk_drew ?_ | refine blk_alloc ?_ _)); refine blk_put (cs := #[.int .i64 0, .int .i64 0, .int .i64 0, .int .i64 0]) ?_ 0 _ rfl; (with_reducible repeat (first | refine blk_drewN ?_ _ | refine blk_drew ?_ | refine blk_alloc ?_ _)); exact BK114.out) hb); replace HB := bp hb; clear hb; obtain ⟨hcz13_0, hcz13_1, hcz13_2, hcz13_3, hfz13_0, hfz13_1, hfz13_2, hfz13_3⟩ := xc4 BK114))
       (try rw [Exit.noGoto_ret])
       go_ret2
       exact ⟨_, ez, by first | exact Kd.R_nil _ _ _ _ _ | exact Kd.N_nil _ _ _ _ _ | exact Kd.V_nil _ _ _ _ _ | exact Kd.Q_nil _ _ _ _ _ | exact Kd.S_nil _ _ _ _ _, bz⟩
      ·rw [if_neg c8] at H; have c8b0 : decide (1099511627776 < (wrap64 (x7_1 + t115))) = false := decide_eq_false c8; clear c8; have H' := Aside0.mk H; clear H; have p113 : 0 ≤ (x13_1 : Int) := od; have q113 : x13_1 < (l1.length : Int) := od; obtain ⟨ad113, e113, hx113_0, hx113_1, hx113_2, hx113_3⟩ := at_T77 HR1.out x13_1 p113 q113
       cases e113
       replace hx113_0 := cl HB hx113_0; replace hx113_1 := cl HB hx113_1; replace hx113_2 := cl HB hx113_2; replace hx113_3 := cl HB hx113_3; replace p113 := eq_true p113; replace q113 := eq_true q113
       go_wp2_with (first | ((with_reducible refine gate_dst (N := 9) rfl ?_); refine zB 9 77 #[.int .i64 0, .int .i64 0, .int .i64 0, .int .i64 0] ?_; intro gb114 hg w14 hbox hb; replace HO_6 := Aside0.mk (Kd.R_below (Kd.R_elderB (rz HO_6) gb114 (Nat.le_of_eq hg.symm)) hb); have BK114 := Aside0.mk hbox; have GW114 := gz hg; have GE114 := gz hg; replace HB := bp hb; have NB112_114 := Aside0.mk ((by rw [hg]; exact Nat.ne_of_lt (bl BK112) : gb112 ≠ gb114)); have NB114_112 := Aside0.mk ((by rw [hg]; exact Nat.ne_of_gt (bl BK112) : gb114 ≠ gb112)); replace BK112 := kb BK112 hb; clear hb hbox hg; have hnb15 := NB114_112.out; have hnc15 := NB112_114.out; obtain ⟨hcz16_0, hcz16_1, hcz16_2, hcz16_3, hfz16_0, hfz16_1, hfz16_2, hfz16_3⟩ := xc4 BK114) | ((with_reducible refine gate_callee (f := 71) rfl ?_); refine zC 18 Try.func71 #[.agg #[.int .i64 ((rd_T77 l1 x13_1).f0), .int .i64 ((rd_T77 l1 x13_1).f1), .int .i64 ((rd_T77 l1 x13_1).f2), .int .i64 ((rd_T77 l1 x13_1).f3)]] ?_; (with_reducible refine (edit_lowest.calls ((rd_T77 l1 x13_1).f0) ((rd_T77 l1 x13_1).f1) ((rd_T77 l1 x13_1).f2) ((rd_T77 l1 x13_1).f3) t115 t116 t117 t118 _ A7.out).mono ?_); rintro e w17 ⟨rfl, hb⟩; refine ⟨_, rfl, ?_⟩; replace HO_6 := Aside0.mk (Kd.R_below (by (with_reducible repeat (first | apply Kd.R_alloc | apply Kd.R_drewN | apply Kd.R_drew)); exact (Kd.R_mono (Kd.R_far (p := ⟨gb114, 3, none⟩) (Kd.R_far (p := ⟨gb114, 2, none⟩) (Kd.R_far (p := ⟨gb114, 1, none⟩) (Kd.R_far (p := ⟨gb114, 0, none⟩) (Kd.R_mono HO_6.out (fun k_ hk => (⟨hk, hk.2⟩ : _ ∧ k_ ≠ gb114))) (fun _ hk => hk.2) (.int .i64 ((rd_T77 l1 x13_1).f0))) (fun _ hk => hk.2) (.int .i64 ((rd_T77 l1 x13_1).f1))) (fun _ hk => hk.2) (.int .i64 ((rd_T77 l1 x13_1).f2))) (fun _ hk => hk.2) (.int .i64 ((rd_T77 l1 x13_1).f3))) (fun _ h_ => h_.1))) hb); replace BK112 := Aside0.mk (blk_below (g := gb112) (o := .cells #[.int .i64 a0_0, .int .i64 a0_1] 79 (0, 0)) (by (with_reducible repeat (first | refine blk_drewN ?_ _ | refine blk_drew ?_ | refine blk_alloc ?_ _)); refine blk_far ?_ NB112_114.out _; (with_reducible repeat (first | refine blk_drewN ?_ _ | refine blk_drew ?_ | refine blk_alloc ?_ _)); refine blk_far ?_ NB112_114.out _; (with_reducible repeat (first | refine blk_drewN ?_ _ | refine blk_drew ?_ | refine blk_alloc ?_ _)); refine blk_far ?_ NB112_114.out _; (with_reducible repeat (first | refine blk_drewN ?_ _ | refine blk_drew ?_ | refine blk_alloc ?_ _)); refine blk_far ?_ NB112_114.out _; (with_reducible repeat (first | refine blk_drewN ?_ _ | refine blk_drew ?_ | refine blk_alloc ?_ _)); exact BK112.out) hb); replace BK114 := Aside0.mk (blk_below (g := gb114) (o := .cells #[.int .i64 ((rd_T77 l1 x13_1).f0), .int .i64 ((rd_T77 l1 x13_1).f1), .int .i64 ((rd_T77 l1 x13_1).f2), .int .i64 ((rd_T77 l1 x13_1).f3)] 77 (0, 0)) (by (with_reducible repeat (first | refine blk_drewN ?_ _ | refine blk_drew ?_ | refine blk_alloc ?_ _)); refine blk_put (cs := #[.int .i64 ((rd_T77 l1 x13_1).f0), .int .i64 ((rd_T77 l1 x13_1).f1), .int .i64 ((rd_T77 l1 x13_1).f2), .int .i64 0]) ?_ 3 _ rfl; (with_reducible repeat (first | refine blk_drewN ?_ _ | refine blk_drew ?_ | refine blk_alloc ?_ _)); refine blk_put (cs := #[.int .i64 ((rd_T77 l1 x13_1).f0), .int .i64 ((rd_T77 l1 x13_1).f1), .int .i64 0, .int .i64 0]) ?_ 2 _ rfl; (with_reducible repeat (first | refine blk_drewN ?_ _ | refine blk_drew ?_ | refine blk_alloc ?_ _)); refine blk_put (cs := #[.int .i64 ((rd_T77 l1 x13_1).f0), .int .i64 0, .int .i64 0, .int .i64 0]) ?_ 1 _ rfl; (with_reducible repeat (first | refine blk_drewN ?_ _ | refine blk_drew ?_ | refine blk_alloc ?_ _)); refine blk_put (cs := #[.int .i64 0, .int .i64 0, .int .i64 0, .int .i64 0]) ?_ 0 _ rfl; (with_reducible repeat (first | refine blk_drewN ?_ _ | refine blk_drew ?_ | refine blk_alloc ?_ _)); exact BK114.out) hb); replace HB := bp hb; clear hb; obtain ⟨hcz18_0, hcz18_1, hcz18_2, hcz18_3, hfz18_0, hfz18_1, hfz18_2, hfz18_3⟩ := xc4 BK114; obtain ⟨Ao19, co19, eo19⟩ := Kd.R_slice HO_6.out; subst eo19))
       go_loopg [] k1 (fun kq w' => ∃ (x6_2 : List (S77)) (x115000_2 : Int), Aside0 (edit_clocks_normal.l1 kq x6_2 (wrap64 (x7_1 + t115)) (x6_1.length : Int) l1 (l1.length : Int) x13_1 a0_0 a0_1 x115000_2 t116 t117 t118 = some (r1, r2)) ∧ Aside0 (kq ≤ k1) ∧ Aside0 (Kd.R k77 77 w' w.heap.size (fun k_ => k_ ≠ gb114) (.slice Ao19 x6_1.length co19) x6_2) ∧ Aside0 (w'.heap[gb112]? = some (.cells #[.int .i64 a0_0, .int .i64 a0_1] 79 (0, 0))) ∧ Aside0 (w'.heap[gb114]? = some (.cells #[.int .i64 x115000_2, .int .i64 t116, .int .i64 t117, .int .i64 t118] 77 (0, 0))) ∧ Aside0 (Below w.heap.size w w'))
       case atStart => exact ⟨(x6_1), (t115), H', ⟨Nat.le_refl _⟩, ⟨by (with_reducible repeat (first | apply Kd.R_alloc | apply Kd.R_drewN | apply Kd.R_drew)); exact Kd.R_mono (Kd.R_far (p := ⟨gb114, 3, none⟩) (Kd.R_far (p := ⟨gb114, 2, none⟩) (Kd.R_far (p := ⟨gb114, 1, none⟩) (Kd.R_far (p := ⟨gb114, 0, none⟩) (Kd.R_mono HO_6.out (fun k_ hk => (⟨hk, hk.2⟩ : _ ∧ k_ ≠ gb114))) (fun _ hk => hk.2) (.int .i64 t115)) (fun _ hk => hk.2) (.int .i64 t116)) (fun _ hk => hk.2) (.int .i64 t117)) (fun _ hk => hk.2) (.int .i64 t118)) (fun _ hk => hk.1.2)⟩, ⟨by (with_reducible repeat (first | refine blk_drewN ?_ _ | refine blk_drew ?_ | refine blk_alloc ?_ _)); refine blk_far ?_ NB112_114.out _; (with_reducible repeat (first | refine blk_drewN ?_ _ | refine blk_drew ?_ | refine blk_alloc ?_ _)); refine blk_far ?_ NB112_114.out _; (with_reducible repeat (first | refine blk_drewN ?_ _ | refine blk_drew ?_ | refine blk_alloc ?_ _)); refine blk_far ?_ NB112_114.out _; (with_reducible repeat (first | refine blk_drewN ?_ _ | refine blk_drew ?_ | refine blk_alloc ?_ _)); refine blk_far ?_ NB112_114.out _; (with_reducible repeat (first | refine blk_drewN ?_ _ | refine blk_drew ?_ | refine blk_alloc ?_ _)); exact BK112.out⟩, ⟨by (with_reducible repeat (first | refine blk_drewN ?_ _ | refine blk_drew ?_ | refine blk_alloc ?_ _)); refine blk_put (cs := #[.int .i64 t115, .int .i64 t116, .int .i64 t117, .int .i64 ((rd_T77 l1 x13_1).f3)]) ?_ 3 _ rfl; (with_reducible repeat (first | refine blk_drewN ?_ _ | refine blk_drew ?_ | refine blk_alloc ?_ _)); refine blk_put (cs := #[.int .i64 t115, .int .i64 t116, .int .i64 ((rd_T77 l1 x13_1).f2), .int .i64 ((rd_T77 l1 x13_1).f3)]) ?_ 2 _ rfl; (with_reducible repeat (first | refine blk_drewN ?_ _ | refine blk_drew ?_ | refine blk_alloc ?_ _)); refine blk_put (cs := #[.int .i64 t115, .int .i64 ((rd_T77 l1 x13_1).f1), .int .i64 ((rd_T77 l1 x13_1).f2), .int .i64 ((rd_T77 l1 x13_1).f3)]) ?_ 1 _ rfl; (with_reducible repeat (first | refine blk_drewN ?_ _ | refine blk_drew ?_ | refine blk_alloc ?_ _)); refine blk_put (cs := #[.int .i64 ((rd_T77 l1 x13_1).f0), .int .i64 ((rd_T77 l1 x13_1).f1), .int .i64 ((rd_T77 l1 x13_1).f2), .int .i64 ((rd_T77 l1 x13_1).f3)]) ?_ 0 _ rfl; (with_reducible repeat (first | refine blk_drewN ?_ _ | refine blk_drew ?_ | refine blk_alloc ?_ _)); exact BK114.out⟩, ⟨bz⟩⟩
       case round =>
        clear H'
        try clear c1
        try clear p1
        try clear q1
        try clear hx1
        try clear p2
        try clear c4
        try clear c4b0
        try clear c5
        try clear c5b0
        try clear c6
        try clear c6b0
        try clear p6
        try clear c7
        try clear c8
        try clear c8b0
        try clear c10
        try clear p11
        try clear q11
        try clear hx11
        try clear c15
        try clear hcz11_0
        try clear hcz11_1
        try clear hcz11_2
        try clear hcz11_3
        try clear hcz13_0
        try clear hcz13_1
        try clear hcz13_2
        try clear hcz13_3
        try clear hcz16_0
        try clear hcz16_1
        try clear hcz16_2
        try clear hcz16_3
        try clear hcz18_0
        try clear hcz18_1
        try clear hcz18_2
        try clear hcz18_3
        try clear hfz11_0
        try clear hfz11_1
        try clear hfz11_2
        try clear hfz11_3
        try clear hfz13_0
        try clear hfz13_1
        try clear hfz13_2
        try clear hfz13_3
        try clear hfz16_0
        try clear hfz16_1
        try clear hfz16_2
        try clear hfz16_3
        try clear hfz18_0
        try clear hfz18_1
        try clear hfz18_2
        try clear hfz18_3
        try clear hx113_0
        try clear hx113_1
        try clear hx113_2
        try clear hx113_3
        try clear p113
        try clear p2
        try clear q113
        obtain ⟨x6_2, x115000_2, HA, HK2, HO_6, BK112, BK114, HB⟩ := hrel; have hl6_2 := (Kd.R_reads' HO_6.out).1; rw [hl6_2] at HO_6
        (try simp only [hl6_2])
        (try simp only [hl6_2] at BK112)
        (try simp only [hl6_2] at BK114)
        cases gk with
        | zero => exact absurd HA.out (by simp [edit_clocks_normal.l1])
        | succ k2 =>
         have H := HA.out; clear HA; simp only [edit_clocks_normal.l1] at H
         (try simp only [hl6_2] at H)
         by_cases c20 : (x6_2.length : Int) > 0
         ·rw [if_pos c20] at H; have c20b0 : decide (0 < (x6_2.length : Int)) = true := decide_eq_true c20; have c20b1 : decide (0 < x6_2.length) = true := decide_eq_true (by omega); clear c20; obtain ⟨ji21, hji21⟩ : ∃ j_ : Int, (wrap64 ((x6_2.length : Int) - 1)) = j_ := ⟨_, rfl⟩; replace H : (if 0 ≤ (ji21) then (if (ji21) < (x6_2.length : Int) then ((edit_clocks_over.f a0_0 a0_1 ((rd_T77 x6_2 (ji21)).f0) ((rd_T77 x6_2 (ji21)).f1) ((rd_T77 x6_2 (ji21)).f2) ((rd_T77 x6_2 (ji21)).f3) x115000_2 t116 t117 t118).bind fun t120 => (if t120 = true then (edit_clocks_normal.l0 k2 (x6_2.set ((ji21) : Int).toNat (⟨wrap64 (((rd_T77 x6_2 (ji21)).f0) + x115000_2), (rd_T77 x6_2 (ji21)).f1, (rd_T77 x6_2 (ji21)).f2, (rd_T77 x6_2 (ji21)).f3⟩ : S77)) (wrap64 (x7_1 + t115)) l1 (l1.length : Int) (wrap64 (x13_1 + 1)) a0_0 a0_1) else (if x6_2.length < 4398046511104 then (edit_clocks_normal.l0 k2 (x6_2 ++ [(⟨x115000_2, t116, t117, t118⟩ : S77)]) (wrap64 (x7_1 + t115)) l1 (l1.length : Int) (wrap64 (x13_1 + 1)) a0_0 a0_1) else (none)))) else (none)) else (none)) = some (r1, r2) := by first | (rw [hji21] at H; exact H) | (simp only [hji21] at H ⊢; exact H)
          have hji21w : (IntKind.i64.wrap ((x6_2.length : Int) - 1)) = ji21 := (i64_w _).trans hji21
          by_cases c22 : 0 ≤ (ji21)
          ·rw [if_pos c22] at H; have c22b0 : decide (0 ≤ (ji21)) = true := decide_eq_true c22; clear c22
           by_cases c23 : (ji21) < (x6_2.length : Int)
           ·rw [if_pos c23] at H; have c23b0 : decide ((ji21) < (x6_2.length : Int)) = true := decide_eq_true c23; clear c23; obtain ⟨t120, A24, H⟩ := ob H
            by_cases c25 : t120 = true
            ·subst c25; rw [if_pos rfl] at H; obtain ⟨y122, hy122⟩ : ∃ y_ : List (S77), y_ = (x6_2.set ((ji21) : Int).toNat (⟨wrap64 (((rd_T77 x6_2 (ji21)).f0) + x115000_2), (rd_T77 x6_2 (ji21)).f1, (rd_T77 x6_2 (ji21)).f2, (rd_T77 x6_2 (ji21)).f3⟩ : S77)) := ⟨_, rfl⟩; replace H : (edit_clocks_normal.l0 k2 y122 (wrap64 (x7_1 + t115)) l1 (l1.length : Int) (wrap64 (x13_1 + 1)) a0_0 a0_1) = some (r1, r2) := by first | (rw [hy122]; with_reducible exact H) | (have H2_ := (Option.bind_some _ _).symm.trans H; rw [hy122]; with_reducible exact H2_) | (have H2_ := (Option.bind_some _ _).symm.trans H; with_reducible exact H2_) | with_reducible exact H | (rw [hy122]; exact H) | exact H
             have Ny122 := Aside0.mk hy122; clear hy122; have H' := Aside0.mk H; clear H
             try go_wp2
             replace HO_6 := Aside0.mk (Kd.R_drew HO_6.out); replace BK112 := Aside0.mk (blk_drew BK112.out); replace BK114 := Aside0.mk (blk_drew BK114.out); replace HB := Aside0.mk (below_drew1 HB.out); have p119 : 0 ≤ ((ji21) : Int) := od; have q119 : (ji21) < (x6_2.length : Int) := od; obtain ⟨ad119, e119, hx119_0, hx119_1, hx119_2, hx119_3⟩ := at_T77 (Kd.R_reads' HO_6.out).2.2 (ji21) p119 q119
             cases e119
             replace p119 := eq_true p119; replace q119 := eq_true q119; refine start_ (n := 12) (S := fun w' => w'.cell? ⟨gb112, 0, none⟩ = some (.int .i64 a0_0) ∧ w'.cell? ⟨gb112, 1, none⟩ = some (.int .i64 a0_1) ∧ w'.cell? ⟨gb114, 0, none⟩ = some (.int .i64 x115000_2) ∧ w'.cell? ⟨gb114, 1, none⟩ = some (.int .i64 t116) ∧ w'.cell? ⟨gb114, 2, none⟩ = some (.int .i64 t117) ∧ w'.cell? ⟨gb114, 3, none⟩ = some (.int .i64 t118) ∧ w'.cell? (ad119.add (((ji21)).toNat * 4)) = some (.int .i64 ((rd_T77 x6_2 (ji21)).f0)) ∧ w'.cell? ⟨(ad119.add (((ji21)).toNat * 4)).block, (ad119.add (((ji21)).toNat * 4)).off + 1, none⟩ = some (.int .i64 ((rd_T77 x6_2 (ji21)).f1)) ∧ w'.cell? ⟨(ad119.add (((ji21)).toNat * 4)).block, (ad119.add (((ji21)).toNat * 4)).off + 2, none⟩ = some (.int .i64 ((rd_T77 x6_2 (ji21)).f2)) ∧ w'.cell? ⟨(ad119.add (((ji21)).toNat * 4)).block, (ad119.add (((ji21)).toNat * 4)).off + 3, none⟩ = some (.int .i64 ((rd_T77 x6_2 (ji21)).f3))) (ds := []) (bs 12 0) (by kernel_rfl) rfl rfl ⟨ct BK112 0, ct BK112 1, ct BK114 0, ct BK114 1, ct BK114 2, ct BK114 3, hx119_0, hx119_1, hx119_2, hx119_3⟩ (fun hHeld => ?_)
             generalize wr.drew = w27 at HO_6 BK112 BK114 HB hx119_0 hx119_1 hx119_2 hx119_3 hHeld ⊢; refine zP 0 27 12 1 ?_; refine zP 1 28 12 3 ?_; refine zP 2 29 12 7 ?_; refine zP 4 31 12 23 ?_; refine zP 5 32 12 55 ?_; refine zP 6 33 12 119 ?_; refine zP 7 34 12 247 ?_; refine zT 3 30 12 255 hHeld ?_; refine zT 8 35 12 511 hHeld ?_; refine zT 9 36 12 1023 hHeld ?_; refine zN 10 (some 37) 12 2047 (fun K hK => ?_); refine goes_ Try.func113 (by kernel_rfl) rfl #[.agg #[.int .i64 a0_0, .int .i64 a0_1], .agg #[.int .i64 ((rd_T77 x6_2 (ji21)).f0), .int .i64 ((rd_T77 x6_2 (ji21)).f1), .int .i64 ((rd_T77 x6_2 (ji21)).f2), .int .i64 ((rd_T77 x6_2 (ji21)).f3)], .agg #[.int .i64 x115000_2, .int .i64 t116, .int .i64 t117, .int .i64 t118]] (by rfl) rfl rfl (by (try simp only [List.map_toArray, List.map_cons, List.map_nil]); first | done | (simp only [hji21]; rfl) | rfl | (simp only [List.length_drop, List.length_take]; rfl)) ?_
             with_reducible refine (edit_clocks_over.calls a0_0 a0_1 ((rd_T77 x6_2 (ji21)).f0) ((rd_T77 x6_2 (ji21)).f1) ((rd_T77 x6_2 (ji21)).f2) ((rd_T77 x6_2 (ji21)).f3) x115000_2 t116 t117 t118 true _ A24.out).mono ?_
             rintro e w28 ⟨rfl, hb⟩; have HS6_ := (hb.cell (World.block_lt_of_cell? _ _ (hHeld.2.2.2.2.2.2.1))).trans (hHeld.2.2.2.2.2.2.1); have HS7_ := (hb.cell (World.block_lt_of_cell? _ _ (hHeld.2.2.2.2.2.2.2.1))).trans (hHeld.2.2.2.2.2.2.2.1); have HS8_ := (hb.cell (World.block_lt_of_cell? _ _ (hHeld.2.2.2.2.2.2.2.2.1))).trans (hHeld.2.2.2.2.2.2.2.2.1); have HS9_ := (hb.cell (World.block_lt_of_cell? _ _ (hHeld.2.2.2.2.2.2.2.2.2))).trans (hHeld.2.2.2.2.2.2.2.2.2); refine ⟨_, rfl, ?_⟩; replace HO_6 := Aside0.mk (Kd.R_below (rz HO_6) hb); replace BK112 := kb BK112 hb; replace BK114 := kb BK114 hb; replace HB := bp hb; clear hb; refine hK.out _ _ ⟨ct BK112 0, ct BK112 1, ct BK114 0, ct BK114 1, ct BK114 2, ct BK114 3, HS6_, HS7_, HS8_, HS9_⟩ (fun hHeld => ?_); clear hK K; refine zM 37 ?_; refine zP 11 38 12 4095 ?_; refine done_ (by kernel_rfl) ?_
             try go_wp2
             replace HO_6 := Aside0.mk (Kd.R_drew HO_6.out); replace BK112 := Aside0.mk (blk_drew BK112.out); replace BK114 := Aside0.mk (blk_drew BK114.out); replace HB := Aside0.mk (below_drew1 HB.out); have p121 : 0 ≤ ((ji21) : Int) := od; have q121 : (ji21) < (x6_2.length : Int) := od; obtain ⟨ad121, e121, hx121_0, hx121_1, hx121_2, hx121_3⟩ := at_T77 (Kd.R_reads' HO_6.out).2.2 (ji21) p121 q121; obtain rfl : ad119 = ad121 := (by injection e121); replace p121 := eq_true p121; replace q121 := eq_true q121; have p26 : 0 ≤ ((ji21) : Int) := od; have q26 : ((ji21) : Int) < ((x6_2.length : Int) : Int) := od; obtain ⟨go26, co26, eo26, gb26, gl26, cl26, HG26⟩ := Kd.R_form HO_6.out (by omega)
             (first | cases eo26 | (injection eo26 with ea_ en_ ec_; (first | subst ea_ | (injection ea_ with ea_; subst ea_)); subst ec_; clear en_))
             have GB26 := Aside0.mk gb26; have GG26 := Aside0.mk HG26; clear gb26 gl26 HG26
             (first | simp only [add_plain] at hx119_0 | skip)
             (first | simp only [add_plain] at hx119_1 | skip)
             (first | simp only [add_plain] at hx119_2 | skip)
             (first | simp only [add_plain] at hx119_3 | skip)
             (first | simp only [add_plain] at hx121_0 | skip)
             (first | simp only [add_plain] at hx121_1 | skip)
             (first | simp only [add_plain] at hx121_2 | skip)
             (first | simp only [add_plain] at hx121_3 | skip)
             obtain ⟨ce26, hcl26, hM26, hcc26, hfr26⟩ := Kd.R_elem HO_6.out z77 ((ji21) : Int) p26 q26; obtain rfl := k77_openM hM26; have hx26_0 : World.cell? _ ⟨go26, ((ji21) : Int).toNat * 4, none⟩ = some (.int .i64 ((rd_T77 x6_2 (ji21)).f0)) := hcc26 0 _ rfl; have hx26_1 : World.cell? _ ⟨go26, ((ji21) : Int).toNat * 4 + 1, none⟩ = some (.int .i64 ((rd_T77 x6_2 (ji21)).f1)) := hcc26 1 _ rfl; have hx26_2 : World.cell? _ ⟨go26, ((ji21) : Int).toNat * 4 + 2, none⟩ = some (.int .i64 ((rd_T77 x6_2 (ji21)).f2)) := hcc26 2 _ rfl; have hx26_3 : World.cell? _ ⟨go26, ((ji21) : Int).toNat * 4 + 3, none⟩ = some (.int .i64 ((rd_T77 x6_2 (ji21)).f3)) := hcc26 3 _ rfl; have hf26_0 : World.frozen? _ ⟨go26, ((ji21) : Int).toNat * 4, none⟩ = false := hfr26 0; have hf26_1 : World.frozen? _ ⟨go26, ((ji21) : Int).toNat * 4 + 1, none⟩ = false := hfr26 1; have hf26_2 : World.frozen? _ ⟨go26, ((ji21) : Int).toNat * 4 + 2, none⟩ = false := hfr26 2; have hf26_3 : World.frozen? _ ⟨go26, ((ji21) : Int).toNat * 4 + 3, none⟩ = false := hfr26 3; clear hcl26 hcc26 hfr26 hM26; replace p26 := eq_true p26; replace q26 := eq_true q26; obtain ⟨ce30, hcl30, hM30, hcc30, hfr30⟩ := Kd.R_elem HO_6.out z77 ((ji21) : Int) (od) (by have h_ : ((ji21) : Int) < ((x6_2.length : Int) : Int) := od; first | exact h_ | (have e_ := (Kd.R_reads' HO_6.out).1; omega) | simpa using h_); obtain rfl := k77_openM hM30; have HP30 := (Kd.R_seg HO_6.out ((ji21) : Int) (od) (by have h_ : ((ji21) : Int) < ((x6_2.length : Int) : Int) := od; first | exact h_ | (have e_ := (Kd.R_reads' HO_6.out).1; omega) | simpa using h_) (seg := [.int .i64 (wrap64 (((rd_T77 x6_2 (ji21)).f0) + x115000_2))]) (j := 0) hcl30 hcc30 (show 1 ≤ 4 from by decide) (x' := (⟨wrap64 (((rd_T77 x6_2 (ji21)).f0) + x115000_2), (rd_T77 x6_2 (ji21)).f1, (rd_T77 x6_2 (ji21)).f2, (rd_T77 x6_2 (ji21)).f3⟩ : S77)) (k77_mkM _ _ _ (⟨wrap64 (((rd_T77 x6_2 (ji21)).f0) + x115000_2), (rd_T77 x6_2 (ji21)).f1, (rd_T77 x6_2 (ji21)).f2, (rd_T77 x6_2 (ji21)).f3⟩ : S77) ) (fun _ hk => hk)).1; rw [← Ny122.out] at HP30; have HQ30 := Aside0.mk HP30; clear hcl30 hcc30 hfr30 hM30 HP30; refine start_ (n := 12) (S := fun w' => w'.cell? ⟨gb114, 0, none⟩ = some (.int .i64 x115000_2) ∧ w'.cell? ⟨gb114, 1, none⟩ = some (.int .i64 t116) ∧ w'.cell? ⟨gb114, 2, none⟩ = some (.int .i64 t117) ∧ w'.cell? ⟨gb114, 3, none⟩ = some (.int .i64 t118) ∧ w'.cell? ⟨go26, (((ji21)) : Int).toNat * 4, none⟩ = some (.int .i64 ((rd_T77 x6_2 (ji21)).f0)) ∧ w'.cell? ⟨go26, (((ji21)) : Int).toNat * 4 + 1, none⟩ = some (.int .i64 ((rd_T77 x6_2 (ji21)).f1)) ∧ w'.cell? ⟨go26, (((ji21)) : Int).toNat * 4 + 2, none⟩ = some (.int .i64 ((rd_T77 x6_2 (ji21)).f2)) ∧ w'.cell? ⟨go26, (((ji21)) : Int).toNat * 4 + 3, none⟩ = some (.int .i64 ((rd_T77 x6_2 (ji21)).f3))) (ds := [11]) (bs 12 0) (by kernel_rfl) rfl rfl ⟨ct BK114 0, ct BK114 1, ct BK114 2, ct BK114 3, hx121_0, hx121_1, hx121_2, hx121_3⟩ (fun hHeld => ?_)
             generalize w28.drew = w29 at HO_6 BK112 BK114 HB GG26 HQ30 hf26_0 hf26_1 hf26_2 hf26_3 hx119_0 hx119_1 hx119_2 hx119_3 hx121_0 hx121_1 hx121_2 hx121_3 hx26_0 hx26_1 hx26_2 hx26_3 hHeld ⊢; refine zP 0 39 12 1 ?_; refine zP 1 40 12 3 ?_; refine zP 2 41 12 7 ?_; refine zP 3 42 12 15 ?_; refine zP 4 43 12 31 ?_; refine zP 6 45 12 95 ?_; refine zT 5 44 12 127 hHeld ?_; refine zT 7 46 12 255 hHeld ?_; refine zP 8 47 12 511 ?_; refine zP 9 48 12 1023 ?_; refine zP 10 49 12 2047 ?_; refine zL 11 none 12 4095 (fun K hK => ?_); refine skip_ (w1 := ?_) (by rfl) rfl ?_ ?_
             rotate_left
             ·go_simp
              rfl
             refine hK.out _ _ ?_; clear hK K; refine done_ (by kernel_rfl) ?_
             try go_wp2
             (try simp only [← hl6_2])
             go_roundg k2
             case measure => have := HK1.out; have := HK2.out; omega
             case rel => exact ⟨(y122), ((wrap64 (x7_1 + t115))), (wrap64 (x13_1 + 1)), jz, jz, H', ⟨by have := HK1.out; have := HK2.out; omega⟩, ⟨by (try simp only [hl6_2]); (with_reducible repeat (first | apply Kd.R_alloc | apply Kd.R_drewN | apply Kd.R_drew)); exact Kd.R_mono HQ30.out (fun _ hk => trivial)⟩, ⟨by (try simp only [hl6_2]); (with_reducible repeat (first | refine blk_drewN ?_ _ | refine blk_drew ?_ | refine blk_alloc ?_ _)); refine blk_far ?_ (by have h_ := Kd.R_ne HO_6.out BK112.out (by decide); intro e_; exact h_ (by rw [e_]; rfl)) _; (with_reducible repeat (first | refine blk_drewN ?_ _ | refine blk_drew ?_ | refine blk_alloc ?_ _)); exact BK112.out⟩, ⟨by repeat (first | (with_reducible first | exact HB.out | apply below_alloc | apply pw_below_drewN | apply below_drew1 | refine below_set ?_ GB26.out | refine below_set ?_ GE112.out | refine below_set ?_ GE114.out) | exact HB.out)⟩⟩
            ·obtain rfl := bf c25; rw [if_neg (show ¬ (false = true) by decide)] at H
             by_cases c31 : x6_2.length < 4398046511104
             ·rw [if_pos c31] at H; have LMc31 := Aside0.mk c31; clear c31; obtain ⟨y123, hy123⟩ : ∃ y_ : List (S77), y_ = (x6_2 ++ [(⟨x115000_2, t116, t117, t118⟩ : S77)]) := ⟨_, rfl⟩; replace H : (edit_clocks_normal.l0 k2 y123 (wrap64 (x7_1 + t115)) l1 (l1.length : Int) (wrap64 (x13_1 + 1)) a0_0 a0_1) = some (r1, r2) := by first | (rw [hy123]; with_reducible exact H) | (have H2_ := (Option.bind_some _ _).symm.trans H; rw [hy123]; with_reducible exact H2_) | (have H2_ := (Option.bind_some _ _).symm.trans H; with_reducible exact H2_) | with_reducible exact H | (rw [hy123]; exact H) | exact H
              have Ny123 := Aside0.mk hy123; clear hy123; have H' := Aside0.mk H; clear H
              try go_wp2
              replace HO_6 := Aside0.mk (Kd.R_drew HO_6.out); replace BK112 := Aside0.mk (blk_drew BK112.out); replace BK114 := Aside0.mk (blk_drew BK114.out); replace HB := Aside0.mk (below_drew1 HB.out); have p119 : 0 ≤ ((ji21) : Int) := od; have q119 : (ji21) < (x6_2.length : Int) := od; obtain ⟨ad119, e119, hx119_0, hx119_1, hx119_2, hx119_3⟩ := at_T77 (Kd.R_reads' HO_6.out).2.2 (ji21) p119 q119
              cases e119
              replace p119 := eq_true p119; replace q119 := eq_true q119; refine start_ (n := 12) (S := fun w' => w'.cell? ⟨gb112, 0, none⟩ = some (.int .i64 a0_0) ∧ w'.cell? ⟨gb112, 1, none⟩ = some (.int .i64 a0_1) ∧ w'.cell? ⟨gb114, 0, none⟩ = some (.int .i64 x115000_2) ∧ w'.cell? ⟨gb114, 1, none⟩ = some (.int .i64 t116) ∧ w'.cell? ⟨gb114, 2, none⟩ = some (.int .i64 t117) ∧ w'.cell? ⟨gb114, 3, none⟩ = some (.int .i64 t118) ∧ w'.cell? (ad119.add (((ji21)).toNat * 4)) = some (.int .i64 ((rd_T77 x6_2 (ji21)).f0)) ∧ w'.cell? ⟨(ad119.add (((ji21)).toNat * 4)).block, (ad119.add (((ji21)).toNat * 4)).off + 1, none⟩ = some (.int .i64 ((rd_T77 x6_2 (ji21)).f1)) ∧ w'.cell? ⟨(ad119.add (((ji21)).toNat * 4)).block, (ad119.add (((ji21)).toNat * 4)).off + 2, none⟩ = some (.int .i64 ((rd_T77 x6_2 (ji21)).f2)) ∧ w'.cell? ⟨(ad119.add (((ji21)).toNat * 4)).block, (ad119.add (((ji21)).toNat * 4)).off + 3, none⟩ = some (.int .i64 ((rd_T77 x6_2 (ji21)).f3))) (ds := []) (bs 12 0) (by kernel_rfl) rfl rfl ⟨ct BK112 0, ct BK112 1, ct BK114 0, ct BK114 1, ct BK114 2, ct BK114 3, hx119_0, hx119_1, hx119_2, hx119_3⟩ (fun hHeld => ?_)
              generalize wr.drew = w32 at HO_6 BK112 BK114 HB hx119_0 hx119_1 hx119_2 hx119_3 hHeld ⊢; refine zP 0 27 12 1 ?_; refine zP 1 28 12 3 ?_; refine zP 2 29 12 7 ?_; refine zP 4 31 12 23 ?_; refine zP 5 32 12 55 ?_; refine zP 6 33 12 119 ?_; refine zP 7 34 12 247 ?_; refine zT 3 30 12 255 hHeld ?_; refine zT 8 35 12 511 hHeld ?_; refine zT 9 36 12 1023 hHeld ?_; refine zN 10 (some 37) 12 2047 (fun K hK => ?_); refine goes_ Try.func113 (by kernel_rfl) rfl #[.agg #[.int .i64 a0_0, .int .i64 a0_1], .agg #[.int .i64 ((rd_T77 x6_2 (ji21)).f0), .int .i64 ((rd_T77 x6_2 (ji21)).f1), .int .i64 ((rd_T77 x6_2 (ji21)).f2), .int .i64 ((rd_T77 x6_2 (ji21)).f3)], .agg #[.int .i64 x115000_2, .int .i64 t116, .int .i64 t117, .int .i64 t118]] (by rfl) rfl rfl (by (try simp only [List.map_toArray, List.map_cons, List.map_nil]); first | done | (simp only [hji21]; rfl) | rfl | (simp only [List.length_drop, List.length_take]; rfl)) ?_
              with_reducible refine (edit_clocks_over.calls a0_0 a0_1 ((rd_T77 x6_2 (ji21)).f0) ((rd_T77 x6_2 (ji21)).f1) ((rd_T77 x6_2 (ji21)).f2) ((rd_T77 x6_2 (ji21)).f3) x115000_2 t116 t117 t118 false _ A24.out).mono ?_
              rintro e w33 ⟨rfl, hb⟩; have HS6_ := (hb.cell (World.block_lt_of_cell? _ _ (hHeld.2.2.2.2.2.2.1))).trans (hHeld.2.2.2.2.2.2.1); have HS7_ := (hb.cell (World.block_lt_of_cell? _ _ (hHeld.2.2.2.2.2.2.2.1))).trans (hHeld.2.2.2.2.2.2.2.1); have HS8_ := (hb.cell (World.block_lt_of_cell? _ _ (hHeld.2.2.2.2.2.2.2.2.1))).trans (hHeld.2.2.2.2.2.2.2.2.1); have HS9_ := (hb.cell (World.block_lt_of_cell? _ _ (hHeld.2.2.2.2.2.2.2.2.2))).trans (hHeld.2.2.2.2.2.2.2.2.2); refine ⟨_, rfl, ?_⟩; replace HO_6 := Aside0.mk (Kd.R_below (rz HO_6) hb); replace BK112 := kb BK112 hb; replace BK114 := kb BK114 hb; replace HB := bp hb; clear hb; refine hK.out _ _ ⟨ct BK112 0, ct BK112 1, ct BK114 0, ct BK114 1, ct BK114 2, ct BK114 3, HS6_, HS7_, HS8_, HS9_⟩ (fun hHeld => ?_); clear hK K; refine zM 37 ?_; refine zP 11 38 12 4095 ?_; refine done_ (by kernel_rfl) ?_; have hnb34 := NB114_112.out; have hnc34 := NB112_114.out; obtain ⟨hcz35_0, hcz35_1, hcz35_2, hcz35_3, hfz35_0, hfz35_1, hfz35_2, hfz35_3⟩ := xc4 BK114
              try go_wp2_with (first | ((with_reducible refine gate_builtin (b := .append) (xs := #[.tmp 50, .tmp 52]) rfl ?_); at_builtin; refine Kd.R_append k77 (w0 := w) w.heap.size rfl (.tmp 50) (.tmp 52) 22 77 (.agg #[(.int .i64 0), (.int .i64 0), (.int .i64 0), (.int .i64 0)]) 32 rfl Try.underlying22 info77 rfl (by decide) (by omega) (.slice (some ad119) x6_2.length co19) x6_2 (⟨x115000_2, t116, t117, t118⟩ : S77) [.int .i64 x115000_2, .int .i64 t116, .int .i64 t117, .int .i64 t118] (fun k_ => k_ ≠ gb114) (fun _ => False) rfl rfl ?aP (fun _ hk => hk.elim) ?aF ?aO ?aB ?aS ?aL ?_; (case aP => exact k77_mkM _ _ _ (⟨x115000_2, t116, t117, t118⟩ : S77)); (case aB => exact bz); (case aF => exact (fun k_ hk => Kd.freshB (g := gb114) (o := .cells #[.int .i64 x115000_2, .int .i64 t116, .int .i64 t117, .int .i64 t118] 77 (0, 0)) kz k_ hk)); (case aO => exact (rz HO_6)); (case aS => exact sz); (case aL => have := LMc31.out; omega); intro v124 w36 ho hb hg hat; rw [← Ny123.out] at ho; have n0_ := Aside0.mk (blk_grown (g := gb112) (o := .cells #[.int .i64 a0_0, .int .i64 a0_1] 79 (0, 0)) kz hg (Kd.R_ne HO_6.out BK112.out (by decide))); have n1_ := Aside0.mk (blk_grown (g := gb114) (o := .cells #[.int .i64 x115000_2, .int .i64 t116, .int .i64 t117, .int .i64 t118] 77 (0, 0)) kz hg (Kd.R_away HO_6.out (fun _ hk => hk))); have n2_ := Aside0.mk (hb); have n3_ := Aside0.mk (ho); clear BK112; clear BK114; clear HB; clear HO_6; have BK112 := n0_; have BK114 := n1_; have HB := n2_; have HO125 := n3_; clear n0_ n1_ n2_ n3_; clear ho hb hg hat))
              (try simp only [← hl6_2])
              go_roundg k2
              case measure => have := HK1.out; have := HK2.out; omega
              case rel => exact ⟨(y123), ((wrap64 (x7_1 + t115))), (wrap64 (x13_1 + 1)), jz, jz, H', ⟨by have := HK1.out; have := HK2.out; omega⟩, ⟨by (try simp only [hl6_2]); (with_reducible repeat (first | apply Kd.R_alloc | apply Kd.R_drewN | apply Kd.R_drew)); exact Kd.R_mono HO125.out (fun _ hk => trivial)⟩, ⟨by (try simp only [hl6_2]); (with_reducible repeat (first | refine blk_drewN ?_ _ | refine blk_drew ?_ | refine blk_alloc ?_ _)); exact BK112.out⟩, ⟨bz⟩⟩
             ·rw [if_neg c31] at H
              exact absurd H (by simp)
           ·rw [if_neg c23] at H
            exact absurd H (by simp)
          ·rw [if_neg c22] at H
           exact absurd H (by simp)
         ·rw [if_neg c20] at H; have c20b0 : decide (0 < (x6_2.length : Int)) = false := decide_eq_false c20; have c20b1 : decide (0 < x6_2.length) = false := decide_eq_false (by omega); clear c20
          by_cases c37 : x6_2.length < 4398046511104
          ·rw [if_pos c37] at H; have LMc37 := Aside0.mk c37; clear c37; obtain ⟨y126, hy126⟩ : ∃ y_ : List (S77), y_ = (x6_2 ++ [(⟨x115000_2, t116, t117, t118⟩ : S77)]) := ⟨_, rfl⟩; replace H : (edit_clocks_normal.l0 k2 y126 (wrap64 (x7_1 + t115)) l1 (l1.length : Int) (wrap64 (x13_1 + 1)) a0_0 a0_1) = some (r1, r2) := by first | (rw [hy126]; with_reducible exact H) | (have H2_ := (Option.bind_some _ _).symm.trans H; rw [hy126]; with_reducible exact H2_) | (have H2_ := (Option.bind_some _ _).symm.trans H; with_reducible exact H2_) | with_reducible exact H | (rw [hy126]; exact H) | exact H
           have Ny126 := Aside0.mk hy126; clear hy126; have H' := Aside0.mk H; clear H
           try go_wp2
           replace HO_6 := Aside0.mk (Kd.R_drew HO_6.out); replace BK112 := Aside0.mk (blk_drew BK112.out); replace BK114 := Aside0.mk (blk_drew BK114.out); replace HB := Aside0.mk (below_drew1 HB.out); refine start_ (n := 12) (S := fun w' => True) (ds := []) (bs 12 0) (by kernel_rfl) rfl rfl trivial (fun hHeld => ?_); generalize wr.drew = w38 at HO_6 BK112 BK114 HB hHeld ⊢; refine zP 0 27 12 1 ?_; refine zP 1 28 12 3 ?_; refine zP 2 29 12 7 ?_; refine zO 3 30 12 15 ?_; refine zO 4 31 12 31 ?_; refine zO 5 32 12 63 ?_; refine zO 6 33 12 127 ?_; refine zO 7 34 12 255 ?_; refine zO 8 35 12 511 ?_; refine zO 9 36 12 1023 ?_; refine zO 10 37 12 2047 ?_; refine zP 11 38 12 4095 ?_; refine done_ (by kernel_rfl) ?_; have hnb39 := NB114_112.out; have hnc39 := NB112_114.out; obtain ⟨hcz40_0, hcz40_1, hcz40_2, hcz40_3, hfz40_0, hfz40_1, hfz40_2, hfz40_3⟩ := xc4 BK114
           try go_wp2_with (first | ((with_reducible refine gate_builtin (b := .append) (xs := #[.tmp 50, .tmp 52]) rfl ?_); at_builtin; refine Kd.R_append k77 (w0 := w) w.heap.size rfl (.tmp 50) (.tmp 52) 22 77 (.agg #[(.int .i64 0), (.int .i64 0), (.int .i64 0), (.int .i64 0)]) 32 rfl Try.underlying22 info77 rfl (by decide) (by omega) (.slice Ao19 x6_2.length co19) x6_2 (⟨x115000_2, t116, t117, t118⟩ : S77) [.int .i64 x115000_2, .int .i64 t116, .int .i64 t117, .int .i64 t118] (fun k_ => k_ ≠ gb114) (fun _ => False) rfl rfl ?aP (fun _ hk => hk.elim) ?aF ?aO ?aB ?aS ?aL ?_; (case aP => exact k77_mkM _ _ _ (⟨x115000_2, t116, t117, t118⟩ : S77)); (case aB => exact bz); (case aF => exact (fun k_ hk => Kd.freshB (g := gb114) (o := .cells #[.int .i64 x115000_2, .int .i64 t116, .int .i64 t117, .int .i64 t118] 77 (0, 0)) kz k_ hk)); (case aO => exact (rz HO_6)); (case aS => exact sz); (case aL => have := LMc37.out; omega); intro v127 w41 ho hb hg hat; rw [← Ny126.out] at ho; have n0_ := Aside0.mk (blk_grown (g := gb112) (o := .cells #[.int .i64 a0_0, .int .i64 a0_1] 79 (0, 0)) kz hg (Kd.R_ne HO_6.out BK112.out (by decide))); have n1_ := Aside0.mk (blk_grown (g := gb114) (o := .cells #[.int .i64 x115000_2, .int .i64 t116, .int .i64 t117, .int .i64 t118] 77 (0, 0)) kz hg (Kd.R_away HO_6.out (fun _ hk => hk))); have n2_ := Aside0.mk (hb); have n3_ := Aside0.mk (ho); clear BK112; clear BK114; clear HB; clear HO_6; have BK112 := n0_; have BK114 := n1_; have HB := n2_; have HO128 := n3_; clear n0_ n1_ n2_ n3_; clear ho hb hg hat))
           (try simp only [← hl6_2])
           go_roundg k2
           case measure => have := HK1.out; have := HK2.out; omega
           case rel => exact ⟨(y126), ((wrap64 (x7_1 + t115))), (wrap64 (x13_1 + 1)), jz, jz, H', ⟨by have := HK1.out; have := HK2.out; omega⟩, ⟨by (try simp only [hl6_2]); (with_reducible repeat (first | apply Kd.R_alloc | apply Kd.R_drewN | apply Kd.R_drew)); exact Kd.R_mono HO128.out (fun _ hk => trivial)⟩, ⟨by (try simp only [hl6_2]); (with_reducible repeat (first | refine blk_drewN ?_ _ | refine blk_drew ?_ | refine blk_alloc ?_ _)); exact BK112.out⟩, ⟨bz⟩⟩
          ·rw [if_neg c37] at H
           exact absurd H (by simp)
     ·rw [if_neg c6] at H
      exact absurd H (by simp)
    ·rw [if_neg c5] at H
     exact absurd H (by simp)
   ·rw [if_neg c4] at H; have c4b0 : decide (x13_1 < (l1.length : Int)) = false := decide_eq_false c4; clear c4
    by_cases c42 : (x6_1.length : Int) > 20
    ·rw [if_pos c42] at H; have c42b0 : decide (20 < (x6_1.length : Int)) = true := decide_eq_true c42; have c42b1 : decide (20 < x6_1.length) = true := decide_eq_true (by omega); clear c42; simp only [Option.some.injEq, Prod.mk.injEq] at H; obtain ⟨rfl, rfl⟩ := H; obtain ⟨Ao43, co43, eo43⟩ := Kd.R_slice HO_6.out; subst eo43
     go_wp2
     (try rw [Exit.noGoto_ret])
     go_ret2
     exact ⟨_, ez, by first | exact Kd.R_nil _ _ _ _ _ | exact Kd.N_nil _ _ _ _ _ | exact Kd.V_nil _ _ _ _ _ | exact Kd.Q_nil _ _ _ _ _ | exact Kd.S_nil _ _ _ _ _, bz⟩
    ·rw [if_neg c42] at H; have c42b0 : decide (20 < (x6_1.length : Int)) = false := decide_eq_false c42; have c42b1 : decide (20 < x6_1.length) = false := decide_eq_false (by omega); clear c42; simp only [Option.some.injEq, Prod.mk.injEq] at H; obtain ⟨rfl, rfl⟩ := H; obtain ⟨Ao44, co44, eo44⟩ := Kd.R_slice HO_6.out; subst eo44
     go_wp2
     (try rw [Exit.noGoto_ret])
     go_ret2
     exact ⟨_, ez, by (with_reducible repeat (first | apply Kd.R_alloc | apply Kd.R_drewN | apply Kd.R_drew)); exact HO_6.out, bz⟩
def edit_Normal.f (k : Nat) (l0 : List (S77)) (a1 : Int) (a2 : Int) : Option ((List (S77)) × Int) := (edit_Check.f k l0 a1 a2).bind fun t129 => (if t129 = 0 then ((edit_clocks_normal.f k a1 a2 l0).bind fun bt130 => (some (bt130.1, bt130.2))) else (some (([] : List (S77)), t129)))
set_option maxHeartbeats 8000000 in
set_option maxRecDepth 100000 in
theorem edit_Normal.calls (k : Nat) (A0 : Option Addr) (c0 : Nat) (l0 : List (S77)) (a1 : Int) (a2 : Int) (r1 : List (S77)) (r2 : Int) (w : World) (hr0 : Kd.C k77 w A0 l0.length l0) (hc0 : l0.length ≤ c0) (h : edit_Normal.f k l0 a1 a2 = some (r1, r2)) :
  Calls Try.prog 21 #[.slice A0 l0.length c0, .int .i64 a1, .int .i64 a2] w fun e w' => ∃ v0_ : Value, e = .returned (.tuple #[v0_, .int .i64 r2]) ∧ Kd.R k77 77 w' w.heap.size (fun _ => True) v0_ r1 ∧ Below w.heap.size w w' := by
 have hu79 := Try.underlying79; have HR0 := Aside0.mk hr0; have HC0 := Aside0.mk hc0; clear hr0 hc0; have HB := Aside0.mk (Below.refl w.heap.size w); have H : ((edit_Check.f k l0 a1 a2).bind fun t129 => (if t129 = 0 then ((edit_clocks_normal.f k a1 a2 l0).bind fun bt130 => (some (bt130.1, bt130.2))) else (some (([] : List (S77)), t129)))) = some (r1, r2) := h
 clear h; obtain ⟨t129, A4, H⟩ := ob H
 by_cases c5 : t129 = 0
 ·rw [if_pos c5] at H; have c5b0 : (t129 == 0) = true := beq_iff_eq.mpr c5; have c5b1 : (t129 != 0) = false := bne_eq_false_iff_eq.mpr c5; clear c5; obtain ⟨⟨t130, t133⟩, A6, H⟩ := ob H
  (try dsimp only at H)
  simp only [Option.some.injEq, Prod.mk.injEq] at H; obtain ⟨rfl, rfl⟩ := H
  go_enter Try.func21, Try.ntmps21
  go_wp2_with (first | ((with_reducible refine gate_callee (f := 24) rfl ?_); refine zC 12 Try.func24 #[.slice A0 l0.length c0, .int .i64 a1, .int .i64 a2] ?_; (with_reducible refine (edit_Check.calls k _ _ l0 a1 a2 t129 _ ?side1 ?side2 A4.out).mono ?_); (case side1 => repeat (first | exact HR0.out | (with_reducible refine Kd.C_alloc ?_ _) | (with_reducible refine Kd.C_drewN ?_ _) | (with_reducible refine Kd.C_drew ?_))); (case side2 => exact HC0.out); rintro e w7 ⟨rfl, hb⟩; refine ⟨_, rfl, ?_⟩; replace HB := bp hb; clear hb) | ((with_reducible refine gate_callee (f := 57) rfl ?_); refine zC 20 Try.func57 #[.agg #[.int .i64 a1, .int .i64 a2], .slice A0 l0.length c0] ?_; (with_reducible refine (edit_clocks_normal.calls k a1 a2 _ _ l0 t130 t133 _ ?side1 ?side2 A6.out).mono ?_); (case side1 => exact cz HR0); (case side2 => exact HC0.out); rintro e w8 ⟨v131, rfl, ho0, hb⟩; refine ⟨_, rfl, ?_⟩; have HO132 := Aside0.mk (Kd.R_lower ho0 sz); replace HB := bp hb; clear hb ho0))
  go_ret2
  exact ⟨_, ez, by (with_reducible repeat (first | apply Kd.R_alloc | apply Kd.R_drewN | apply Kd.R_drew)); exact HO132.out, bz⟩
 ·rw [if_neg c5] at H; have c5b0 : (t129 == 0) = false := beq_eq_false_iff_ne.mpr c5; have c5b1 : (t129 != 0) = true := bne_iff_ne.mpr c5; simp only [Option.some.injEq, Prod.mk.injEq] at H; obtain ⟨rfl, rfl⟩ := H
  go_enter Try.func21, Try.ntmps21
  go_wp2_with (first | ((with_reducible refine gate_callee (f := 24) rfl ?_); refine zC 12 Try.func24 #[.slice A0 l0.length c0, .int .i64 a1, .int .i64 a2] ?_; (with_reducible refine (edit_Check.calls k _ _ l0 a1 a2 t129 _ ?side1 ?side2 A4.out).mono ?_); (case side1 => repeat (first | exact HR0.out | (with_reducible refine Kd.C_alloc ?_ _) | (with_reducible refine Kd.C_drewN ?_ _) | (with_reducible refine Kd.C_drew ?_))); (case side2 => exact HC0.out); rintro e w9 ⟨rfl, hb⟩; refine ⟨_, rfl, ?_⟩; replace HB := bp hb; clear hb))
  go_ret2
  exact ⟨_, ez, by first | exact Kd.R_nil _ _ _ _ _ | exact Kd.N_nil _ _ _ _ _ | exact Kd.V_nil _ _ _ _ _ | exact Kd.Q_nil _ _ _ _ _ | exact Kd.S_nil _ _ _ _ _, bz⟩
end Go.Proofs.Ytpbhepdgamoiaaa.E
namespace Go.Proofs.Ytpbhepdgamoiaaa.E
open Go.Proofs.Ytpbhepdgamoiaaa.Z Go.RowKit Go.Proofs.YtpbhepdgamoiaaaW.PrintWords Go.Proofs.YtpbhepdgamoiaaaW.PrintLast Go.Proofs.YtpbhepdgamoiaaaW.PrintMore
attribute [local go_sem] max2_int min2_int max_two min_two max_three min_three max_four min_four
set_option linter.unusedVariables false
set_option linter.unusedSimpArgs false
attribute [local go_sem high] eqA77
def dioramalaw10_awake.f (k : Nat)  : Option (Bool) := (edit_Normal.f k (([(⟨10, 0, 1, 1⟩ : S77), (⟨5, 10, 1, 1⟩ : S77)] : List (S77))) 10 10).bind fun bt137 => (if bt137.2 = 0 then (if (bt137.1.length : Int) = 1 then (if 0 < (bt137.1.length : Int) then (some (((rd_T77 bt137.1 0).f0) == 15 && (((rd_T77 bt137.1 0).f1) == 0 && (((rd_T77 bt137.1 0).f2) == 1 && (((rd_T77 bt137.1 0).f3) == 1))))) else (none)) else (some false)) else (some false))
set_option maxHeartbeats 8000000 in
set_option maxRecDepth 100000 in
theorem dioramalaw10_awake.calls (k : Nat)  (r : Bool) (w : World) (h : dioramalaw10_awake.f k  = some r) :
  Calls Try.prog 20 #[] w fun e w' => e = .returned (.bool r) ∧ Below w.heap.size w w' := by
 have hu77 := Try.underlying77; have HB := Aside0.mk (Below.refl w.heap.size w); have H : ((edit_Normal.f k (([(⟨10, 0, 1, 1⟩ : S77), (⟨5, 10, 1, 1⟩ : S77)] : List (S77))) 10 10).bind fun bt137 => (if bt137.2 = 0 then (if (bt137.1.length : Int) = 1 then (if 0 < (bt137.1.length : Int) then (some (((rd_T77 bt137.1 0).f0) == 15 && (((rd_T77 bt137.1 0).f1) == 0 && (((rd_T77 bt137.1 0).f2) == 1 && (((rd_T77 bt137.1 0).f3) == 1))))) else (none)) else (some false)) else (some false))) = some r := h
 clear h; obtain ⟨y134, hy134⟩ : ∃ y_ : List (S77), y_ = (([(⟨10, 0, 1, 1⟩ : S77), (⟨5, 10, 1, 1⟩ : S77)] : List (S77))) := ⟨_, rfl⟩; replace H : ((edit_Normal.f k y134 10 10).bind fun bt137 => (if bt137.2 = 0 then (if (bt137.1.length : Int) = 1 then (if 0 < (bt137.1.length : Int) then (some (((rd_T77 bt137.1 0).f0) == 15 && (((rd_T77 bt137.1 0).f1) == 0 && (((rd_T77 bt137.1 0).f2) == 1 && (((rd_T77 bt137.1 0).f3) == 1))))) else (none)) else (some false)) else (some false))) = some r := by first | (rw [hy134]; with_reducible exact H) | (have H2_ := (Option.bind_some _ _).symm.trans H; rw [hy134]; with_reducible exact H2_) | (have H2_ := (Option.bind_some _ _).symm.trans H; with_reducible exact H2_) | with_reducible exact H | (rw [hy134]; exact H) | exact H
 have Ny134 := Aside0.mk hy134; clear hy134; obtain ⟨⟨t137, t138⟩, A1, H⟩ := ob H
 (try dsimp only at H)
 by_cases c2 : t138 = 0
 ·rw [if_pos c2] at H; have c2b0 : (t138 == 0) = true := beq_iff_eq.mpr c2; have c2b1 : (t138 != 0) = false := bne_eq_false_iff_eq.mpr c2; clear c2
  by_cases c3 : (t137.length : Int) = 1
  ·rw [if_pos c3] at H; have c3b0 : ((t137.length : Int) == 1) = true := beq_iff_eq.mpr c3; have c3b1 : ((t137.length : Int) != 1) = false := bne_eq_false_iff_eq.mpr c3; clear c3
   by_cases c4 : 0 < (t137.length : Int)
   ·rw [if_pos c4] at H; have c4b0 : decide (0 < (t137.length : Int)) = true := decide_eq_true c4; have c4b1 : decide (0 < t137.length) = true := decide_eq_true (by omega); clear c4; obtain rfl := Option.some.inj H
    go_enter Try.func20, Try.ntmps20
    go_wp2_with (first | ((with_reducible refine gate_dst (N := 6) rfl ?_); refine Kd.R_lit k77 _ 77 ?hg (N := 6) ?hd (xs := ([(⟨10, 0, 1, 1⟩ : S77), (⟨5, 10, 1, 1⟩ : S77)] : List (S77))) (inner := [.int .i64 10, .int .i64 0, .int .i64 1, .int .i64 1, .int .i64 5, .int .i64 10, .int .i64 1, .int .i64 1]) (ok := fun _ => True) (okp := fun _ => True) ?hr ?hp (fun _ hk => hk) trivial (Below.refl _ _) (Nat.le_refl _) (by simp) ?_; (case hd => rfl); (case hg => rfl); (case hr => first | (go_simp; done) | (go_simp; rfl)); (case hp => exact (Reps.c4 (show Kd.M k77 _ _ _ (⟨10, 0, 1, 1⟩ : S77) [.int .i64 10, .int .i64 0, .int .i64 1, .int .i64 1] from (k77_mkM _ _ _ (⟨10, 0, 1, 1⟩ : S77) )) (Reps.c4 (show Kd.M k77 _ _ _ (⟨5, 10, 1, 1⟩ : S77) [.int .i64 5, .int .i64 10, .int .i64 1, .int .i64 1] from (k77_mkM _ _ _ (⟨5, 10, 1, 1⟩ : S77) )) (Reps.none _ _)))); intro v135 w5 ho6 hb hg_ hnew_; clear hg_ hnew_; (first | rw [← Ny134.out] at ho6 | (simp only [Int.reduceToNat] at ho6; rw [← Ny134.out] at ho6)); have HO136 := Aside0.mk (Kd.R_lower ho6 sz); replace HB := bp hb; clear hb ho6; obtain ⟨Ao7, co7, eo7⟩ := Kd.R_slice HO136.out; subst eo7) | ((with_reducible refine gate_callee (f := 21) rfl ?_); refine zC 7 Try.func21 #[.slice Ao7 y134.length co7, .int .i64 10, .int .i64 10] ?_; (with_reducible refine (edit_Normal.calls k _ _ y134 10 10 t137 t138 _ ?side1 ?side2 A1.out).mono ?_); (case side1 => exact cr HO136); (case side2 => exact (Kd.R_reads' HO136.out).2.1); rintro e w8 ⟨v139, rfl, ho0, hb⟩; refine ⟨_, rfl, ?_⟩; have HO140 := Aside0.mk (Kd.R_lower (Kd.R_new' ho0 (Kd.R_lt (rz HO136))) sz); replace HO136 := Aside0.mk (Kd.R_elder' (rz HO136) (Kd.R_base ho0) hb); replace HB := bp hb; clear hb ho0; obtain ⟨Ao9, co9, eo9⟩ := Kd.R_slice HO140.out; subst eo9; have p141 : 0 ≤ (0 : Int) := (by omega); have q141 : 0 < (t137.length : Int) := od; obtain ⟨ad141, e141, hx141_0, hx141_1, hx141_2, hx141_3⟩ := at_T77 (Kd.R_reads' HO140.out).2.2 0 p141 q141; cases e141; have qi141 : (0 < t137.length) = True := eq_true (by omega); (try rw [show ((0 : Int)).toNat = 0 from rfl] at hx141_0); (try rw [show 0 * 4 = 0 from rfl] at hx141_0); (try rw [Addr.add_zero'] at hx141_0); (try rw [show ((0 : Int)).toNat = 0 from rfl] at hx141_1); (try rw [show 0 * 4 = 0 from rfl] at hx141_1); (try rw [Addr.add_zero'] at hx141_1); (try rw [show ((0 : Int)).toNat = 0 from rfl] at hx141_2); (try rw [show 0 * 4 = 0 from rfl] at hx141_2); (try rw [Addr.add_zero'] at hx141_2); (try rw [show ((0 : Int)).toNat = 0 from rfl] at hx141_3); (try rw [show 0 * 4 = 0 from rfl] at hx141_3); (try rw [Addr.add_zero'] at hx141_3); replace p141 := eq_true p141; replace q141 := eq_true q141))
    go_ret
    exact ⟨ez, bz⟩
   ·rw [if_neg c4] at H
    exact absurd H (by simp)
  ·rw [if_neg c3] at H; have c3b0 : ((t137.length : Int) == 1) = false := beq_eq_false_iff_ne.mpr c3; have c3b1 : ((t137.length : Int) != 1) = true := bne_iff_ne.mpr c3; obtain rfl := Option.some.inj H
   go_enter Try.func20, Try.ntmps20
   go_wp2_with (first | ((with_reducible refine gate_dst (N := 6) rfl ?_); refine Kd.R_lit k77 _ 77 ?hg (N := 6) ?hd (xs := ([(⟨10, 0, 1, 1⟩ : S77), (⟨5, 10, 1, 1⟩ : S77)] : List (S77))) (inner := [.int .i64 10, .int .i64 0, .int .i64 1, .int .i64 1, .int .i64 5, .int .i64 10, .int .i64 1, .int .i64 1]) (ok := fun _ => True) (okp := fun _ => True) ?hr ?hp (fun _ hk => hk) trivial (Below.refl _ _) (Nat.le_refl _) (by simp) ?_; (case hd => rfl); (case hg => rfl); (case hr => first | (go_simp; done) | (go_simp; rfl)); (case hp => exact (Reps.c4 (show Kd.M k77 _ _ _ (⟨10, 0, 1, 1⟩ : S77) [.int .i64 10, .int .i64 0, .int .i64 1, .int .i64 1] from (k77_mkM _ _ _ (⟨10, 0, 1, 1⟩ : S77) )) (Reps.c4 (show Kd.M k77 _ _ _ (⟨5, 10, 1, 1⟩ : S77) [.int .i64 5, .int .i64 10, .int .i64 1, .int .i64 1] from (k77_mkM _ _ _ (⟨5, 10, 1, 1⟩ : S77) )) (Reps.none _ _)))); intro v135 w10 ho11 hb hg_ hnew_; clear hg_ hnew_; (first | rw [← Ny134.out] at ho11 | (simp only [Int.reduceToNat] at ho11; rw [← Ny134.out] at ho11)); have HO136 := Aside0.mk (Kd.R_lower ho11 sz); replace HB := bp hb; clear hb ho11; obtain ⟨Ao12, co12, eo12⟩ := Kd.R_slice HO136.out; subst eo12) | ((with_reducible refine gate_callee (f := 21) rfl ?_); refine zC 7 Try.func21 #[.slice Ao12 y134.length co12, .int .i64 10, .int .i64 10] ?_; (with_reducible refine (edit_Normal.calls k _ _ y134 10 10 t137 t138 _ ?side1 ?side2 A1.out).mono ?_); (case side1 => exact cr HO136); (case side2 => exact (Kd.R_reads' HO136.out).2.1); rintro e w13 ⟨v139, rfl, ho0, hb⟩; refine ⟨_, rfl, ?_⟩; have HO140 := Aside0.mk (Kd.R_lower (Kd.R_new' ho0 (Kd.R_lt (rz HO136))) sz); replace HO136 := Aside0.mk (Kd.R_elder' (rz HO136) (Kd.R_base ho0) hb); replace HB := bp hb; clear hb ho0; obtain ⟨Ao14, co14, eo14⟩ := Kd.R_slice HO140.out; subst eo14))
   go_ret
   exact ⟨ez, bz⟩
 ·rw [if_neg c2] at H; have c2b0 : (t138 == 0) = false := beq_eq_false_iff_ne.mpr c2; have c2b1 : (t138 != 0) = true := bne_iff_ne.mpr c2; obtain rfl := Option.some.inj H
  go_enter Try.func20, Try.ntmps20
  go_wp2_with (first | ((with_reducible refine gate_dst (N := 6) rfl ?_); refine Kd.R_lit k77 _ 77 ?hg (N := 6) ?hd (xs := ([(⟨10, 0, 1, 1⟩ : S77), (⟨5, 10, 1, 1⟩ : S77)] : List (S77))) (inner := [.int .i64 10, .int .i64 0, .int .i64 1, .int .i64 1, .int .i64 5, .int .i64 10, .int .i64 1, .int .i64 1]) (ok := fun _ => True) (okp := fun _ => True) ?hr ?hp (fun _ hk => hk) trivial (Below.refl _ _) (Nat.le_refl _) (by simp) ?_; (case hd => rfl); (case hg => rfl); (case hr => first | (go_simp; done) | (go_simp; rfl)); (case hp => exact (Reps.c4 (show Kd.M k77 _ _ _ (⟨10, 0, 1, 1⟩ : S77) [.int .i64 10, .int .i64 0, .int .i64 1, .int .i64 1] from (k77_mkM _ _ _ (⟨10, 0, 1, 1⟩ : S77) )) (Reps.c4 (show Kd.M k77 _ _ _ (⟨5, 10, 1, 1⟩ : S77) [.int .i64 5, .int .i64 10, .int .i64 1, .int .i64 1] from (k77_mkM _ _ _ (⟨5, 10, 1, 1⟩ : S77) )) (Reps.none _ _)))); intro v135 w15 ho16 hb hg_ hnew_; clear hg_ hnew_; (first | rw [← Ny134.out] at ho16 | (simp only [Int.reduceToNat] at ho16; rw [← Ny134.out] at ho16)); have HO136 := Aside0.mk (Kd.R_lower ho16 sz); replace HB := bp hb; clear hb ho16; obtain ⟨Ao17, co17, eo17⟩ := Kd.R_slice HO136.out; subst eo17) | ((with_reducible refine gate_callee (f := 21) rfl ?_); refine zC 7 Try.func21 #[.slice Ao17 y134.length co17, .int .i64 10, .int .i64 10] ?_; (with_reducible refine (edit_Normal.calls k _ _ y134 10 10 t137 t138 _ ?side1 ?side2 A1.out).mono ?_); (case side1 => exact cr HO136); (case side2 => exact (Kd.R_reads' HO136.out).2.1); rintro e w18 ⟨v139, rfl, ho0, hb⟩; refine ⟨_, rfl, ?_⟩; have HO140 := Aside0.mk (Kd.R_lower (Kd.R_new' ho0 (Kd.R_lt (rz HO136))) sz); replace HO136 := Aside0.mk (Kd.R_elder' (rz HO136) (Kd.R_base ho0) hb); replace HB := bp hb; clear hb ho0))
  go_ret
  exact ⟨ez, bz⟩
end Go.Proofs.Ytpbhepdgamoiaaa.E
namespace Go.Proofs.Ytpbhepdgamoiaaa.Bk
open Go.RowKit Go Go.Proofs.YtpbhepdgamoiaaaW.PrintWords Go.Proofs.YtpbhepdgamoiaaaW.PrintLast Go.Proofs.YtpbhepdgamoiaaaW.PrintMore Go.Proofs.Ytpbhepdgamoiaaa.Ml Go.Proofs.Ytpbhepdgamoiaaa.Mn Go.Proofs.Ytpbhepdgamoiaaa.Nd Go.Proofs.Ytpbhepdgamoiaaa.Z Go.Proofs.Ytpbhepdgamoiaaa.Nc Go.Proofs.Ytpbhepdgamoiaaa.Nb Go.Proofs.Ytpbhepdgamoiaaa.Qa Go.Proofs.Ytpbhepdgamoiaaa.Ea Go.Proofs.Ytpbhepdgamoiaaa.Ra Go.Proofs.Ytpbhepdgamoiaaa.Rf Go.Proofs.Ytpbhepdgamoiaaa.Er Go.Proofs.Ytpbhepdgamoiaaa.Ek Go.Proofs.Ytpbhepdgamoiaaa.Et Go.Proofs.Ytpbhepdgamoiaaa.E Go.Proofs.Ytpbhepdgamoiaaa.Pe
set_option linter.unusedVariables false
set_option linter.unusedSimpArgs false
abbrev Spn := S63
theorem sgn_q (q : Rat) : cmpI q.num 0 = cmpQ q 0 := by
 unfold cmpI cmpQ
 have h0 : ∀ r : Rat, r.num < 0 ↔ r < 0 := by
  intro r
  rw [← Rat.not_le, ← Rat.num_nonneg]
  omega
 have h1 := h0 q
 have h2 : 0 < q.num ↔ 0 < q := by
  have h3 := h0 (-q)
  rw [Rat.neg_num] at h3
  constructor
  ·intro h
   have := h3.1 (by omega)
   grind
  ·intro h
   have := h3.2 (by grind)
   omega
 by_cases c1 : q < 0
 ·rw [if_pos (h1.2 c1), if_pos c1]
 ·rw [if_neg (fun h => c1 (h1.1 h)), if_neg c1]
  by_cases c2 : 0 < q
  ·rw [if_pos (h2.2 c2), if_pos c2]
  ·rw [if_neg (fun h => c2 (h2.1 h)), if_neg c2]
set_option maxRecDepth 100000 in
theorem signQ_n (g : Nat) (q : Rat) (n : Nat) (w : World) (h : RQ w g q n) : Calls Try.prog 99 #[.pointer (some ⟨g, 0, none⟩)] w (ValP w (.int .i64 (cmpQ q 0))) := by
 have HR := Aside0.mk h
 go_enter Try.func99, Try.ntmps99
 go_wp2_with fail
 refine (signI_n g 0 q.num n w HR.out.num).mono ?_
 rintro e w2 ⟨rfl, hb⟩
 have HB := Aside0.mk hb
 rw [sgn_q]
 clear hb
 go_wp2_with fail
 go_ret
 exact ⟨rfl, HB.out⟩
def spn (u v : Rat) : Spn := ⟨⟨(tmV u).1.1, (tmV u).1.2⟩, ⟨(tmV v).1.1, (tmV v).1.2⟩⟩
def bckL (ms ts : Int) (p : Rat) : List Spn → Int → List Ed → List Spn × Int
 | out, _, [] => (out, 0)
 | out, b, x :: t =>
  if x.f1 < 0 then bckL ms ts p out (b + x.f0) t
  else if x.f2 = 0 then
   (if p - qq x.f1 ts = 0 then (if (tmV (qq b ms)).2 = 0 ∧ (tmV (qq (b + x.f0) ms)).2 = 0 then bckL ms ts p (out ++ [spn (qq b ms) (qq (b + x.f0) ms)]) (b + x.f0) t else ([], 2))
       else bckL ms ts p out (b + x.f0) t)
  else if p - qq x.f1 ts < 0 ∨ ¬ qq b ms + (p - qq x.f1 ts) * qq x.f3 x.f2 < qq (b + x.f0) ms then bckL ms ts p out (b + x.f0) t
  else if (tmV (qq b ms + (p - qq x.f1 ts) * qq x.f3 x.f2)).2 = 0 then bckL ms ts p (out ++ [spn (qq b ms + (p - qq x.f1 ts) * qq x.f3 x.f2) (qq b ms + (p - qq x.f1 ts) * qq x.f3 x.f2)]) (b + x.f0) t
  else ([], 2)
theorem bckL_cons (ms ts : Int) (p : Rat) (out : List Spn) (b : Int) (x : Ed) (t : List Ed) : bckL ms ts p out b (x :: t) =
  if x.f1 < 0 then bckL ms ts p out (b + x.f0) t
  else if x.f2 = 0 then
   (if p - qq x.f1 ts = 0 then (if (tmV (qq b ms)).2 = 0 ∧ (tmV (qq (b + x.f0) ms)).2 = 0 then bckL ms ts p (out ++ [spn (qq b ms) (qq (b + x.f0) ms)]) (b + x.f0) t else ([], 2))
       else bckL ms ts p out (b + x.f0) t)
  else if p - qq x.f1 ts < 0 ∨ ¬ qq b ms + (p - qq x.f1 ts) * qq x.f3 x.f2 < qq (b + x.f0) ms then bckL ms ts p out (b + x.f0) t
  else if (tmV (qq b ms + (p - qq x.f1 ts) * qq x.f3 x.f2)).2 = 0 then bckL ms ts p (out ++ [spn (qq b ms + (p - qq x.f1 ts) * qq x.f3 x.f2) (qq b ms + (p - qq x.f1 ts) * qq x.f3 x.f2)]) (b + x.f0) t
  else ([], 2) := rfl
def bckV (l : List Ed) (ms ts n d : Int) : List Spn × Int :=
 if chk l ms ts = 0 then (if Ea.valid n d = true then bckL ms ts (qq n d) [] 0 l else ([], 4)) else ([], chk l ms ts)
def SP (w : World) (r : List Spn × Int) (e : Ending) (w' : World) : Prop := ∃ v, e = .returned (.tuple #[v, .int .i64 r.2]) ∧ Kd.R k63 63 w' w.heap.size (fun _ => True) v r.1 ∧ Below w.heap.size w w'
structure Mb (w W : World) (n d : Int) : Prop where
 a : W.heap[w.heap.size]? = some (timeObj n d)
 below : Below w.heap.size w W
theorem Mb.step {w W W2 : World} {n d : Int} (h : Mb w W n d) (hb : Below W.heap.size W W2) : Mb w W2 n d := ⟨blk_below h.a hb, h.below.trans (hb.mono h.below.size)⟩
theorem Mb.start (w : World) (n d : Int) : Mb w (w.alloc (timeObj n d)) n d := ⟨blk_new w _, below_alloc (Below.refl _ w) _⟩
structure Sb (w W : World) (n d : Int) (v : Value) (out : List Spn) : Prop where
 m : Mb w W n d
 r : Kd.R k63 63 W w.heap.size (fun k => k ≠ w.heap.size) v out
theorem Sb.step {w W W2 : World} {n d : Int} {v : Value} {out : List Spn} (h : Sb w W n d v out) (hb : Below W.heap.size W W2) : Sb w W2 n d v out := ⟨h.m.step hb, Kd.R_below h.r hb⟩
structure Tb (w W : World) (n d : Int) (v : Value) (out : List Spn) (G : Nat) (X : Ed) : Prop where
 s : Sb w W n d v out
 e : W.heap[G]? = some (edO X.f0 X.f1 X.f2 X.f3)
theorem Tb.step {w W W2 : World} {n d : Int} {v : Value} {out : List Spn} {G : Nat} {X : Ed} (h : Tb w W n d v out G X) (hb : Below W.heap.size W W2) : Tb w W2 n d v out G X := ⟨h.s.step hb, blk_below h.e hb⟩
theorem Tb.cells {w W : World} {n d : Int} {v : Value} {out : List Spn} {G : Nat} {X : Ed} (h : Tb w W n d v out G X) : W.cell? ⟨G, 0, none⟩ = some (.int .i64 X.f0) ∧ W.cell? ⟨G, 1, none⟩ = some (.int .i64 X.f1) ∧ W.cell? ⟨G, 2, none⟩ = some (.int .i64 X.f2) ∧ W.cell? ⟨G, 3, none⟩ = some (.int .i64 X.f3) := ed_cells h.e
theorem Tb.start {w W : World} {n d : Int} {v : Value} {out : List Spn} (X : Ed) (h : Sb w W n d v out) : Tb w (W.alloc (edO X.f0 X.f1 X.f2 X.f3)) n d v out W.heap.size X := ⟨h.step (below_alloc (Below.refl _ W) _), blk_new W _⟩
set_option maxHeartbeats 16000000 in
set_option maxRecDepth 100000 in
theorem back_n (A0 : Option Addr) (c0 : Nat) (l0 : List Ed) (a1 : Int) (a2 : Int) (n d : Int) (w : World) (hr0 : Kd.C k77 w A0 l0.length l0) (hc0 : l0.length ≤ c0) :
  Calls Try.prog 46 #[.slice A0 l0.length c0, .int .i64 a1, .int .i64 a2, .agg #[.int .i64 n, .int .i64 d]] w (SP w (bckV l0 a1 a2 n d)) := by
 have hu := Try.underlying77
 have hu2 := Try.underlying37
 have hu3 := Try.underlying63
 have HR := Aside0.mk (And.intro hr0 hc0)
 have HC := Aside0.mk (fun W (hb : Below w.heap.size w W) => check_n A0 c0 l0 a1 a2 W (Kd.C_below hr0 hb) hc0)
 have HV := Aside0.mk (show bckV l0 a1 a2 n d = if chk l0 a1 a2 = 0 then (if Ea.valid n d = true then bckL a1 a2 (qq n d) [] 0 l0 else ([], 4)) else ([], chk l0 a1 a2) from rfl)
 have HO := Aside0.mk (fun h0 : chk l0 a1 a2 = 0 => chk_ok.1 h0)
 generalize bckV l0 a1 a2 n d = V at *
 generalize chk l0 a1 a2 = C at *
 clear hr0 hc0
 have hM := Aside0.mk (Mb.start w n d)
 go_enter Try.func46, Try.ntmps46
 go_wp2_with fail
 generalize hW : World.alloc w _ = W
 have HM := Aside0.mk (show Mb w W n d by rw [← hW]; exact hM.out)
 clear hW hM
 refine (HC.out W HM.out.below).mono ?_
 rintro e w2 ⟨rfl, hb2⟩
 have HM2 := Aside0.mk (HM.out.step hb2)
 clear hb2 HM HC
 by_cases hc : C = 0
 case neg =>
  have HV2 := Aside0.mk (show V = ([], C) by rw [HV.out, if_neg hc])
  clear HV HO
  go_wp2_with fail
  go_ret2
  rw [HV2.out]
  exact ⟨_, rfl, Kd.R_nil _ _ _ _ _, HM2.out.below⟩
 subst hc
 have HV2 := Aside0.mk (show V = if Ea.valid n d = true then bckL a1 a2 (qq n d) [] 0 l0 else ([], 4) by rw [HV.out, if_pos rfl])
 have HC := Aside0.mk (HO.out rfl)
 clear HV HO
 obtain ⟨p0, p1, f0, f1⟩ := time_cells HM2.out.a
 go_wp2_with fail
 refine (Valid_n n d w2).mono ?_
 rintro e w3 ⟨rfl, hb3⟩
 have HM3 := Aside0.mk (HM2.out.step hb3)
 clear hb3 HM2 p0 p1 f0 f1
 cases hv : Ea.valid n d with
 | false =>
  have HV3 := Aside0.mk (show V = ([], 4) by rw [HV2.out, hv, if_neg (by decide)])
  clear HV2 hv
  go_wp2_with fail
  go_ret2
  rw [HV3.out]
  exact ⟨_, rfl, Kd.R_nil _ _ _ _ _, HM3.out.below⟩
 | true =>
  have HV3 := Aside0.mk (show V = bckL a1 a2 (qq n d) [] 0 l0 by rw [HV2.out, hv, if_pos rfl])
  have HX := Aside0.mk (show (I64 n ∧ I64 d) ∧ d ≠ 0 by unfold Ea.valid at hv; simp only [Bool.and_eq_true, decide_eq_true_eq] at hv; exact ⟨⟨⟨by omega, by omega⟩, ⟨by omega, by omega⟩⟩, by omega⟩)
  clear HV2 hv
  go_wp2_with fail
  go_loopg [11, 12, 34] l0.length (fun kq v11 v12 v34 w' => ∃ (out : List Spn) (b i : Int), v12 = .int .i64 b ∧ v34 = .int .i64 i ∧ Aside0 (0 ≤ i ∧ i + kq = l0.length ∧ b = sumD (l0.take i.toNat)) ∧ Aside0 (V = bckL a1 a2 (qq n d) out b (l0.drop i.toNat)) ∧ Aside0 (Sb w w' n d v11 out ∧ out.length ≤ i.toNat))
  case atStart => exact ⟨[], 0, 0, rfl, rfl, ⟨by simp, by simp, by simp [sumD]⟩, ⟨by rw [HV3.out]; simp⟩, ⟨⟨HM3.out, Kd.R_nil _ _ _ _ _⟩, by simp⟩⟩
  case round =>
   clear HV3 HM3
   obtain ⟨out, b, i, rfl, rfl, hi, hL, hM⟩ := hrel
   by_cases hlt : i < (l0.length : Int)
   ·have hlb : decide (i < (l0.length : Int)) = true := decide_eq_true hlt
    have p0 := hi.out.1
    have HA := Aside0.mk (At.of p0 hlt hi.out.2.2 HC.out.2.2.1 HC.out.2.2.2)
    obtain ⟨ad, hA, q0, q1, q2, q3⟩ := at_T77 (Kd.C_below HR.out.1 hM.out.1.m.below) i p0 hlt
    subst hA
    obtain ⟨k1, rfl⟩ : ∃ k, gk = k + 1 := ⟨gk - 1, by have := hi.out.2; omega⟩
    generalize rd_T77 l0 i = X at *
    have hwi : wrap64 (i + 1) = i + 1 := by
     have := HC.out.2.1
     exact w64 (by omega) (by omega)
    have hwb : wrap64 (b + X.f0) = b + X.f0 := w64 (by have := HA.out.b0; have := HA.out.vd.d0; omega) (by have := HA.out.b1; omega)
    have HW := Aside0.mk (And.intro (And.intro hwi hwb) (And.intro (show 0 ≤ i + 1 ∧ i + 1 + (k1 : Int) = l0.length by have := hi.out.2.1; omega) (And.intro (show out.length ≤ (i + 1).toNat by have := hM.out.2; omega) (And.intro (show out.length + 1 ≤ (i + 1).toNat by have := hM.out.2; omega) (show out.length ≤ 100 by have := hM.out.2; have := HC.out.2.1; omega)))))
    have HL := Aside0.mk (show V = bckL a1 a2 (qq n d) out b (X :: l0.drop (i + 1).toNat) by rw [hL.out, HA.out.drop])
    replace p0 := eq_true p0
    replace hlt := eq_true hlt
    clear hwi hwb hi hL
    have HI := Aside0.mk (show (I64 b ∧ I64 (wrap64 (b + X.f0))) ∧ (I64 a1 ∧ a1 ≠ 0) ∧ (I64 a2 ∧ a2 ≠ 0) by
     have := HA.out.b0
     have := HA.out.b1
     have := HA.out.vd.d0
     have := HC.out.1.m0
     have := HC.out.1.m1
     have := HC.out.1.t0
     have := HC.out.1.t1
     rw [HW.out.1.2]
     exact ⟨⟨⟨by omega, by omega⟩, ⟨by omega, by omega⟩⟩, ⟨⟨by omega, by omega⟩, by omega⟩, ⟨⟨by omega, by omega⟩, by omega⟩⟩)
    have HJ := Aside0.mk (show I64 X.f1 ∧ I64 X.f2 ∧ (I64 X.f3 ∧ X.f3 ≠ 0) by
     have := HA.out.vd.m0
     have := HA.out.vd.m1
     have := HA.out.vd.n0
     have := HA.out.vd.n1
     have := HA.out.vd.e0
     have := HA.out.vd.e1
     exact ⟨⟨by omega, by omega⟩, ⟨by omega, by omega⟩, ⟨by omega, by omega⟩, by omega⟩)
    have hX := Aside0.mk (Tb.start X hM.out.1)
    go_wp2_with fail
    generalize hW1 : World.alloc wr _ = W1
    have HT := Aside0.mk (show Tb w W1 n d u11 out wr.heap.size X by rw [← hW1]; exact hX.out)
    clear hW1 hX hM q0 q1 q2 q3
    generalize wr.heap.size = G at *
    have hb0 : Below W1.heap.size W1 W1.drew := below_drew' (Below.refl _ _)
    refine start_ (n := 11) (S := fun w' => w'.cell? ⟨G, 0, none⟩ = some (.int .i64 X.f0)) (ds := []) (bs 11 0) (by kernel_rfl) rfl rfl (HT.out.step hb0).cells.1 (fun hHeld => ?_)
    refine zP 0 38 11 1 ?_
    refine zP 1 39 11 3 ?_
    refine zP 3 41 11 11 ?_
    refine zP 4 42 11 27 ?_
    refine zP 7 45 11 155 ?_
    refine zT 5 43 11 187 hHeld ?_
    refine zP 6 44 11 251 ?_
    refine zN 2 (some 40) 11 255 (fun K hK => ?_)
    refine zG Try.func78 #[.int .i64 b, .int .i64 a1] ?_
    with_reducible refine (ratioE_n b a1 W1.drew HI.out.1.1 HI.out.2.1.1 HI.out.2.1.2).mono ?_
    rintro e w5 ⟨g5, hg5, rfl, hb5, hN5⟩
    refine ⟨_, rfl, ?_⟩
    have hb5' := below_drew' hb5
    have H5 := Aside0.mk (And.intro hN5 (HT.out.step hb5'))
    clear hb5 hb5' hN5 hg5
    refine hK.out _ _ H5.out.2.cells.1 (fun hHeld => ?_)
    clear hK K
    refine zM 40 ?_
    refine zN 8 (some 46) 11 511 (fun K hK => ?_)
    refine zG Try.func78 #[.int .i64 (wrap64 (b + X.f0)), .int .i64 a1] ?_
    with_reducible refine (ratioE_n (wrap64 (b + X.f0)) a1 w5 HI.out.1.2 HI.out.2.1.1 HI.out.2.1.2).mono ?_
    rintro e w6 ⟨g6, hg6, rfl, hb6, hN6⟩
    refine ⟨_, rfl, ?_⟩
    have H6 := Aside0.mk (And.intro (H5.out.1.below hb6) (And.intro hN6 (H5.out.2.step hb6)))
    clear hb6 hN6 hg6
    refine hK.out _ _ H6.out.2.2.cells.1 (fun hHeld => ?_)
    clear hK K
    refine zM 46 ?_
    refine zP 9 15 11 1023 ?_
    refine zP 10 16 11 2047 ?_
    refine done_ (by kernel_rfl) ?_
    clear hHeld hb0 HT H5
    obtain ⟨c0, c1, c2, c3⟩ := H6.out.2.2.cells
    go_wp2_with fail
    have hb0 : Below w6.heap.size w6 w6.drew := below_drew' (Below.refl _ _)
    clear c0 c1 c2 c3
    refine start_ (n := 8) (S := fun w' => w'.cell? ⟨w.heap.size, 0, none⟩ = some (.int .i64 n) ∧ w'.cell? ⟨w.heap.size, 1, none⟩ = some (.int .i64 d) ∧ w'.cell? ⟨G, 1, none⟩ = some (.int .i64 X.f1)) (ds := []) (bs 8 0) (by kernel_rfl) rfl rfl ⟨(time_cells (H6.out.2.2.step hb0).s.m.a).1, (time_cells (H6.out.2.2.step hb0).s.m.a).2.1, (H6.out.2.2.step hb0).cells.2.1⟩ (fun hHeld => ?_)
    refine zP 2 53 8 4 ?_
    refine zP 4 55 8 20 ?_
    refine zT 0 51 8 21 hHeld ?_
    refine zT 3 54 8 29 hHeld ?_
    refine zN 1 (some 52) 8 31 (fun K hK => ?_)
    refine zG Try.func80 #[.agg #[.int .i64 n, .int .i64 d]] ?_
    with_reducible refine (numberE_n n d w6.drew HX.out.1.1 HX.out.1.2 HX.out.2).mono ?_
    rintro e w7 ⟨g7, hg7, rfl, hb7, hN7⟩
    refine ⟨_, rfl, ?_⟩
    have hb7' := below_drew' hb7
    have H7 := Aside0.mk (And.intro hN7 (And.intro (H6.out.1.below hb7') (And.intro (H6.out.2.1.below hb7') (H6.out.2.2.step hb7'))))
    clear hb7 hb7' hN7 hg7
    refine hK.out _ _ ⟨(time_cells H7.out.2.2.2.s.m.a).1, (time_cells H7.out.2.2.2.s.m.a).2.1, H7.out.2.2.2.cells.2.1⟩ (fun hHeld => ?_)
    clear hK K
    refine zM 52 ?_
    refine zN 5 (some 56) 8 63 (fun K hK => ?_)
    refine zG Try.func78 #[.int .i64 X.f1, .int .i64 a2] ?_
    with_reducible refine (ratioE_n X.f1 a2 w7 HJ.out.1 HI.out.2.2.1 HI.out.2.2.2).mono ?_
    rintro e w8 ⟨g8, hg8, rfl, hb8, hN8⟩
    refine ⟨_, rfl, ?_⟩
    have H8 := Aside0.mk (And.intro hN8 (And.intro (H7.out.1.below hb8) (And.intro (H7.out.2.1.below hb8) (And.intro (H7.out.2.2.1.below hb8) (H7.out.2.2.2.step hb8)))))
    clear hb8 hN8 hg8
    refine hK.out _ _ ⟨(time_cells H8.out.2.2.2.2.s.m.a).1, (time_cells H8.out.2.2.2.2.s.m.a).2.1, H8.out.2.2.2.2.cells.2.1⟩ (fun hHeld => ?_)
    clear hK K
    refine zM 56 ?_
    refine zN 6 (some 57) 8 127 (fun K hK => ?_)
    refine zG Try.func84 #[.pointer (some ⟨g7, 0, none⟩), .pointer (some ⟨g8, 0, none⟩)] ?_
    with_reducible refine (subE_n g7 g8 (qq n d) (qq X.f1 a2) 2 2 w8 H8.out.2.1 H8.out.1 (by decide)).mono ?_
    rintro e w9 ⟨g9, hg9, rfl, hb9, hN9⟩
    refine ⟨_, rfl, ?_⟩
    have H9 := Aside0.mk (And.intro hN9 (And.intro (H8.out.2.2.1.below hb9) (And.intro (H8.out.2.2.2.1.below hb9) (H8.out.2.2.2.2.step hb9))))
    clear hb9 hN9 hg9
    refine hK.out _ _ ⟨(time_cells H9.out.2.2.2.s.m.a).1, (time_cells H9.out.2.2.2.s.m.a).2.1, H9.out.2.2.2.cells.2.1⟩ (fun hHeld => ?_)
    clear hK K
    refine zM 57 ?_
    refine zP 7 17 8 255 ?_
    refine done_ (by kernel_rfl) ?_
    clear hHeld hb0 H6 H7 H8
    rw [HW.out.1.2] at H9
    have hl := HL.out
    rw [bckL_cons] at hl
    have HL1 := Aside0.mk hl
    clear hl
    obtain ⟨c0, c1, c2, c3⟩ := H9.out.2.2.2.cells
    by_cases hm : X.f1 < 0
    ·have hmb : decide (X.f1 < 0) = true := decide_eq_true hm
     have HL2 := Aside0.mk (show V = bckL a1 a2 (qq n d) out (b + X.f0) (l0.drop (i + 1).toNat) by rw [HL1.out, if_pos hm])
     clear HL HL1 hm
     go_wp2_with fail
     go_roundg k1
     case measure => omega
     case rel => exact ⟨out, b + X.f0, i + 1, by rw [HW.out.1.2], by rw [HW.out.1.1], ⟨HW.out.2.1.1, HW.out.2.1.2, HA.out.sum⟩, ⟨HL2.out⟩, ⟨H9.out.2.2.2.s, HW.out.2.2.1⟩⟩
    ·have hmb : decide (X.f1 < 0) = false := decide_eq_false hm
     have hl := HL1.out
     rw [if_neg hm] at hl
     replace HL1 := Aside0.mk hl
     clear hl
     by_cases hz : X.f2 = 0
     ·have hl := HL1.out
      rw [if_pos hz] at hl
      replace HL1 := Aside0.mk hl
      clear hl
      have hzb : (X.f2 == 0) = true := beq_iff_eq.2 hz
      have hzg : decide (X.f2 > 0) = false := decide_eq_false (by omega)
      go_wp2_with fail
      refine (signQ_n g9 (qq n d - qq X.f1 a2) 5 w9 H9.out.1).mono ?_
      rintro e w10 ⟨rfl, hb10⟩
      have H10 := Aside0.mk (And.intro (H9.out.2.1.below hb10) (And.intro (H9.out.2.2.1.below hb10) (H9.out.2.2.2.step hb10)))
      clear hb10 H9 c0 c1 c2 c3
      obtain ⟨c0, c1, c2, c3⟩ := H10.out.2.2.cells
      by_cases ha : (qq n d - qq X.f1 a2) = 0
      ·have hl := HL1.out
       rw [if_pos ha] at hl
       replace HL1 := Aside0.mk hl
       clear hl
       rw [show cmpQ (qq n d - qq X.f1 a2) 0 = 0 by rw [ha]; unfold cmpQ; rw [if_neg Rat.lt_irrefl, if_neg Rat.lt_irrefl]]
       clear ha HL
       have HL3 : V = if (tmV (qq b a1)).2 = 0 ∧ (tmV (qq (b + X.f0) a1)).2 = 0 then bckL a1 a2 (qq n d) (out ++ [(⟨⟨(tmV (qq b a1)).1.1, (tmV (qq b a1)).1.2⟩, ⟨(tmV (qq (b + X.f0) a1)).1.1, (tmV (qq (b + X.f0) a1)).1.2⟩⟩ : Spn)]) (b + X.f0) (l0.drop (i + 1).toNat) else ([], 2) := HL1.out
       clear HL1
       have hTu : Calls Try.prog 82 #[.pointer (some ⟨g5, 0, none⟩)] w10 (ValP w10 (.tuple #[.agg #[.int .i64 (tmV (qq b a1)).1.1, .int .i64 (tmV (qq b a1)).1.2], .int .i64 (tmV (qq b a1)).2])) := timeE_n g5 (qq b a1) 2 w10 (H10.out.1) (by decide)
       have hTv : ∀ W, RQ W g6 (qq (b + X.f0) a1) 2 → Calls Try.prog 82 #[.pointer (some ⟨g6, 0, none⟩)] W (ValP W (.tuple #[.agg #[.int .i64 (tmV (qq (b + X.f0) a1)).1.1, .int .i64 (tmV (qq (b + X.f0) a1)).1.2], .int .i64 (tmV (qq (b + X.f0) a1)).2])) := fun W h => timeE_n g6 (qq (b + X.f0) a1) 2 W h (by decide)
       have hNv := H10.out.2.1
       have hS := H10.out.2.2
       have hLL := HL3
       clear HL3
       generalize (tmV (qq b a1)).1.1 = T1 at *
       generalize (tmV (qq b a1)).1.2 = T2 at *
       generalize (tmV (qq b a1)).2 = T3 at *
       generalize (tmV (qq (b + X.f0) a1)).1.1 = U1 at *
       generalize (tmV (qq (b + X.f0) a1)).1.2 = U2 at *
       generalize (tmV (qq (b + X.f0) a1)).2 = U3 at *
       have HTu := Aside0.mk hTu
       have HTv := Aside0.mk hTv
       have HS := Aside0.mk (And.intro hNv hS)
       have HLL := Aside0.mk hLL
       clear hTu hTv hNv hS hLL
       go_wp2_with fail
       refine HTu.out.mono ?_
       rintro e wa ⟨rfl, hba⟩
       have HS2 := Aside0.mk (And.intro (HS.out.1.below hba) (HS.out.2.step hba))
       clear hba HS HTu
       have hxa := Aside0.mk (And.intro (blk_new wa (.cells #[.int .i64 T1, .int .i64 T2] 37 (0, 0))) (below_alloc (Below.refl wa.heap.size wa) (.cells #[.int .i64 T1, .int .i64 T2] 37 (0, 0))))
       go_wp2_with fail
       generalize hWa : World.alloc wa _ = Wa
       have HS3 := Aside0.mk (show Wa.heap[wa.heap.size]? = some (timeObj T1 T2) ∧ RQ Wa g6 (qq (b + X.f0) a1) 2 ∧ Tb w Wa n d u11 out G X by rw [← hWa]; exact ⟨hxa.out.1, HS2.out.1.below hxa.out.2, HS2.out.2.step hxa.out.2⟩)
       clear hWa hxa HS2
       generalize wa.heap.size = ga at *
       refine (HTv.out Wa HS3.out.2.1).mono ?_
       rintro e wb ⟨rfl, hbb⟩
       have HS4 := Aside0.mk (And.intro (blk_below HS3.out.1 hbb) (HS3.out.2.2.step hbb))
       clear hbb HS3 HTv
       have hxb := Aside0.mk (And.intro (blk_new wb (.cells #[.int .i64 U1, .int .i64 U2] 37 (0, 0))) (below_alloc (Below.refl wb.heap.size wb) (.cells #[.int .i64 U1, .int .i64 U2] 37 (0, 0))))
       by_cases t3 : T3 = 0
       case neg =>
        have HV4 := Aside0.mk (show V = ([], 2) by rw [HLL.out, if_neg (fun h => t3 h.1)])
        have t3b : (T3 != 0) = true := by simpa using t3
        have t3c : (T3 == 0) = false := by simpa using t3
        clear HLL t3
        go_wp2_with fail
        go_ret2
        rw [HV4.out]
        exact ⟨_, rfl, Kd.R_nil _ _ _ _ _, HS4.out.2.s.m.below.trans (hxb.out.2.mono HS4.out.2.s.m.below.size)⟩
       by_cases u3 : U3 = 0
       case neg =>
        have HV4 := Aside0.mk (show V = ([], 2) by rw [HLL.out, if_neg (fun h => u3 h.2)])
        have t3b : (T3 != 0) = false := by simpa using t3
        have t3c : (T3 == 0) = true := by simpa using t3
        have u3b : (U3 != 0) = true := by simpa using u3
        have u3c : (U3 == 0) = false := by simpa using u3
        clear HLL t3 u3
        go_wp2_with fail
        go_ret2
        rw [HV4.out]
        exact ⟨_, rfl, Kd.R_nil _ _ _ _ _, HS4.out.2.s.m.below.trans (hxb.out.2.mono HS4.out.2.s.m.below.size)⟩
       have HV4 := Aside0.mk (show V = bckL a1 a2 (qq n d) (out ++ [(⟨⟨T1, T2⟩, ⟨U1, U2⟩⟩ : Spn)]) (b + X.f0) (l0.drop (i + 1).toNat) by rw [HLL.out, if_pos ⟨t3, u3⟩])
       have t3b : (T3 != 0) = false := by simpa using t3
       have t3c : (T3 == 0) = true := by simpa using t3
       have u3b : (U3 != 0) = false := by simpa using u3
       have u3c : (U3 == 0) = true := by simpa using u3
       clear HLL t3 u3
       have hxa2 := blk_below HS4.out.1 hxb.out.2
       obtain ⟨ka0, ka1, _, _⟩ := time_cells hxa2
       obtain ⟨kb0, kb1, _, _⟩ := time_cells hxb.out.1
       have HS5 := Aside0.mk (HS4.out.2.step hxb.out.2)
       go_wp2_with (first
        | ((with_reducible refine gate_builtin (b := .append) (xs := #[.tmp 110, .tmp 114]) rfl ?_); at_builtin; refine Kd.R_append k63 (w0 := w) w.heap.size rfl (.tmp 110) (.tmp 114) 58 63 (.agg #[(.int .i64 0), (.int .i64 0), (.int .i64 0), (.int .i64 0)]) 32 rfl Try.underlying58 info63 rfl (by decide) (by omega) u11 out (⟨⟨T1, T2⟩, ⟨U1, U2⟩⟩ : Spn) [.int .i64 T1, .int .i64 T2, .int .i64 U1, .int .i64 U2] (fun k => k ≠ w.heap.size) (fun _ => False) rfl (by first | (go_simp; done) | (go_simp; rfl)) (k63_mkM _ _ _ (⟨⟨T1, T2⟩, ⟨U1, U2⟩⟩ : Spn)) (fun _ hk => hk.elim) (fun k hk he => by have := HS5.out.s.m.a; have := lt_of_some this; omega) HS5.out.s.r HS5.out.s.m.below HS5.out.s.m.below.size (by have := HW.out.2.2.2.2; omega) ?_; intro v9 w9' ho hb hg hat; have HS6 := Aside0.mk (show Sb w w9' n d v9 (out ++ [(⟨⟨T1, T2⟩, ⟨U1, U2⟩⟩ : Spn)]) from ⟨⟨blk_grown HS5.out.s.m.a hg (fun he => HS5.out.s.r.1 _ he.symm rfl), hb⟩, ho⟩); clear ho hb hg hat))
       go_roundg k1
       case measure => omega
       case rel => exact ⟨out ++ [(⟨⟨T1, T2⟩, ⟨U1, U2⟩⟩ : Spn)], b + X.f0, i + 1, by rw [HW.out.1.2], by rw [HW.out.1.1], ⟨HW.out.2.1.1, HW.out.2.1.2, HA.out.sum⟩, ⟨HV4.out⟩, ⟨HS6.out, by rw [List.length_append]; exact HW.out.2.2.2.1⟩⟩
      ·have hl := HL1.out
       rw [if_neg ha] at hl
       replace HL1 := Aside0.mk hl
       clear hl
       have HL2 := HL1
       have hcb : (cmpQ (qq n d - qq X.f1 a2) 0 != 0) = true := by
        rw [bne_iff_ne]
        intro h
        unfold cmpQ at h
        split at h
        ·cases h
        ·split at h
         ·cases h
         ·rename_i h1 h2
          exact ha (Rat.le_antisymm (Rat.not_lt.1 h2) (Rat.not_lt.1 h1))
       generalize cmpQ (qq n d - qq X.f1 a2) 0 = c at *
       clear ha HL HL1
       go_wp2_with fail
       go_roundg k1
       case measure => omega
       case rel => exact ⟨out, b + X.f0, i + 1, by rw [HW.out.1.2], by rw [HW.out.1.1], ⟨HW.out.2.1.1, HW.out.2.1.2, HA.out.sum⟩, ⟨HL2.out⟩, ⟨H10.out.2.2.s, HW.out.2.2.1⟩⟩
     ·have hl := HL1.out
      rw [if_neg hz] at hl
      replace HL1 := Aside0.mk hl
      clear hl
      have hf2 : 0 < X.f2 := by have := HA.out.vd.n0; omega
      have hzb : (X.f2 == 0) = false := beq_eq_false_iff_ne.2 hz
      have hzg : decide (X.f2 > 0) = true := decide_eq_true hf2
      go_wp2_with fail
      refine (ratioE_n X.f3 X.f2 w9 HJ.out.2.2.1 HJ.out.2.1 hz).mono ?_
      rintro e w10 ⟨g10, hg10, rfl, hb10, hN10⟩
      have H10 := Aside0.mk (And.intro hN10 (And.intro (H9.out.1.below hb10) (And.intro (H9.out.2.1.below hb10) (And.intro (H9.out.2.2.1.below hb10) (H9.out.2.2.2.step hb10)))))
      clear hb10 H9 c0 c1 c2 c3 hN10 hg10
      go_wp2_with fail
      refine (mulE_n g9 g10 (qq n d - qq X.f1 a2) (qq X.f3 X.f2) 5 2 w10 H10.out.2.1 H10.out.1 (by decide)).mono ?_
      rintro e w11 ⟨g11, hg11, rfl, hb11, hN11⟩
      have H11 := Aside0.mk (And.intro hN11 (And.intro (H10.out.2.1.below hb11) (And.intro (H10.out.2.2.1.below hb11) (And.intro (H10.out.2.2.2.1.below hb11) (H10.out.2.2.2.2.step hb11)))))
      clear hb11 H10 hN11 hg11
      go_wp2_with fail
      refine (addE_n g5 g11 (qq b a1) ((qq n d - qq X.f1 a2) * qq X.f3 X.f2) 2 7 w11 H11.out.2.2.1 H11.out.1 (by decide)).mono ?_
      rintro e w12 ⟨g12, hg12, rfl, hb12, hN12⟩
      have H12 := Aside0.mk (And.intro hN12 (And.intro (H11.out.2.1.below hb12) (And.intro (H11.out.2.2.2.1.below hb12) (H11.out.2.2.2.2.step hb12))))
      clear hb12 H11 hN12 hg12
      go_wp2_with fail
      refine (signQ_n g9 (qq n d - qq X.f1 a2) 5 w12 H12.out.2.1).mono ?_
      rintro e w13 ⟨rfl, hb13⟩
      have H13 := Aside0.mk (And.intro (H12.out.1.below hb13) (And.intro (H12.out.2.2.1.below hb13) (H12.out.2.2.2.step hb13)))
      clear hb13 H12
      obtain ⟨c0, c1, c2, c3⟩ := H13.out.2.2.cells
      by_cases ha : (qq n d - qq X.f1 a2) < 0
      ·have HL2 := Aside0.mk (show V = bckL a1 a2 (qq n d) out (b + X.f0) (l0.drop (i + 1).toNat) by rw [HL1.out, if_pos (.inl ha)])
       rw [show cmpQ (qq n d - qq X.f1 a2) 0 = -1 from if_pos ha]
       clear ha HL HL1
       go_wp2_with fail
       go_roundg k1
       case measure => omega
       case rel => exact ⟨out, b + X.f0, i + 1, by rw [HW.out.1.2], by rw [HW.out.1.1], ⟨HW.out.2.1.1, HW.out.2.1.2, HA.out.sum⟩, ⟨HL2.out⟩, ⟨H13.out.2.2.s, HW.out.2.2.1⟩⟩
      ·obtain ⟨c, hc, ec⟩ := cmpQ_ge ha
       rw [ec]
       have hcb : decide (c < 0) = false := decide_eq_false (by omega)
       clear ec
       go_wp2_with fail
       refine (cmpQ_n g12 g6 (qq b a1 + (qq n d - qq X.f1 a2) * qq X.f3 X.f2) (qq (b + X.f0) a1) 10 2 w13 H13.out.1 H13.out.2.1 (by decide)).mono ?_
       rintro e w14 ⟨rfl, hb14⟩
       have H14 := Aside0.mk (And.intro (H13.out.1.below hb14) (H13.out.2.2.step hb14))
       clear hb14 H13 c0 c1 c2 c3
       obtain ⟨c0, c1, c2, c3⟩ := H14.out.2.cells
       by_cases hq : (qq b a1 + (qq n d - qq X.f1 a2) * qq X.f3 X.f2) < qq (b + X.f0) a1
       ·rw [show cmpQ (qq b a1 + (qq n d - qq X.f1 a2) * qq X.f3 X.f2) (qq (b + X.f0) a1) = -1 from if_pos hq]
        have hl := HL1.out
        rw [if_neg (fun h => h.elim ha (fun h => h hq))] at hl
        replace HL1 := Aside0.mk hl
        clear hl
        have HL3 : V = if (tmV (qq b a1 + (qq n d - qq X.f1 a2) * qq X.f3 X.f2)).2 = 0 ∧ (tmV (qq b a1 + (qq n d - qq X.f1 a2) * qq X.f3 X.f2)).2 = 0 then bckL a1 a2 (qq n d) (out ++ [(⟨⟨(tmV (qq b a1 + (qq n d - qq X.f1 a2) * qq X.f3 X.f2)).1.1, (tmV (qq b a1 + (qq n d - qq X.f1 a2) * qq X.f3 X.f2)).1.2⟩, ⟨(tmV (qq b a1 + (qq n d - qq X.f1 a2) * qq X.f3 X.f2)).1.1, (tmV (qq b a1 + (qq n d - qq X.f1 a2) * qq X.f3 X.f2)).1.2⟩⟩ : Spn)]) (b + X.f0) (l0.drop (i + 1).toNat) else ([], 2) := by
         rw [HL1.out]
         simp only [and_self]
         rfl
        clear hq ha HL HL1 hc
        have hTu : Calls Try.prog 82 #[.pointer (some ⟨g12, 0, none⟩)] w14 (ValP w14 (.tuple #[.agg #[.int .i64 (tmV ((qq b a1 + (qq n d - qq X.f1 a2) * qq X.f3 X.f2))).1.1, .int .i64 (tmV ((qq b a1 + (qq n d - qq X.f1 a2) * qq X.f3 X.f2))).1.2], .int .i64 (tmV ((qq b a1 + (qq n d - qq X.f1 a2) * qq X.f3 X.f2))).2])) := timeE_n g12 ((qq b a1 + (qq n d - qq X.f1 a2) * qq X.f3 X.f2)) 10 w14 (H14.out.1) (by decide)
        have hTv : ∀ W, RQ W g12 ((qq b a1 + (qq n d - qq X.f1 a2) * qq X.f3 X.f2)) 10 → Calls Try.prog 82 #[.pointer (some ⟨g12, 0, none⟩)] W (ValP W (.tuple #[.agg #[.int .i64 (tmV ((qq b a1 + (qq n d - qq X.f1 a2) * qq X.f3 X.f2))).1.1, .int .i64 (tmV ((qq b a1 + (qq n d - qq X.f1 a2) * qq X.f3 X.f2))).1.2], .int .i64 (tmV ((qq b a1 + (qq n d - qq X.f1 a2) * qq X.f3 X.f2))).2])) := fun W h => timeE_n g12 ((qq b a1 + (qq n d - qq X.f1 a2) * qq X.f3 X.f2)) 10 W h (by decide)
        have hNv := H14.out.1
        have hS := H14.out.2
        have hLL := HL3
        clear HL3
        generalize (tmV ((qq b a1 + (qq n d - qq X.f1 a2) * qq X.f3 X.f2))).1.1 = T1 at *
        generalize (tmV ((qq b a1 + (qq n d - qq X.f1 a2) * qq X.f3 X.f2))).1.2 = T2 at *
        generalize (tmV ((qq b a1 + (qq n d - qq X.f1 a2) * qq X.f3 X.f2))).2 = T3 at *
        have HTu := Aside0.mk hTu
        have HTv := Aside0.mk hTv
        have HS := Aside0.mk (And.intro hNv hS)
        have HLL := Aside0.mk hLL
        clear hTu hTv hNv hS hLL
        go_wp2_with fail
        refine HTu.out.mono ?_
        rintro e wa ⟨rfl, hba⟩
        have HS2 := Aside0.mk (And.intro (HS.out.1.below hba) (HS.out.2.step hba))
        clear hba HS HTu
        have hxa := Aside0.mk (And.intro (blk_new wa (.cells #[.int .i64 T1, .int .i64 T2] 37 (0, 0))) (below_alloc (Below.refl wa.heap.size wa) (.cells #[.int .i64 T1, .int .i64 T2] 37 (0, 0))))
        go_wp2_with fail
        generalize hWa : World.alloc wa _ = Wa
        have HS3 := Aside0.mk (show Wa.heap[wa.heap.size]? = some (timeObj T1 T2) ∧ RQ Wa g12 ((qq b a1 + (qq n d - qq X.f1 a2) * qq X.f3 X.f2)) 10 ∧ Tb w Wa n d u11 out G X by rw [← hWa]; exact ⟨hxa.out.1, HS2.out.1.below hxa.out.2, HS2.out.2.step hxa.out.2⟩)
        clear hWa hxa HS2
        generalize wa.heap.size = ga at *
        refine (HTv.out Wa HS3.out.2.1).mono ?_
        rintro e wb ⟨rfl, hbb⟩
        have HS4 := Aside0.mk (And.intro (blk_below HS3.out.1 hbb) (HS3.out.2.2.step hbb))
        clear hbb HS3 HTv
        have hxb := Aside0.mk (And.intro (blk_new wb (.cells #[.int .i64 T1, .int .i64 T2] 37 (0, 0))) (below_alloc (Below.refl wb.heap.size wb) (.cells #[.int .i64 T1, .int .i64 T2] 37 (0, 0))))
        by_cases t3 : T3 = 0
        case neg =>
         have HV4 := Aside0.mk (show V = ([], 2) by rw [HLL.out, if_neg (fun h => t3 h.1)])
         have t3b : (T3 != 0) = true := by simpa using t3
         have t3c : (T3 == 0) = false := by simpa using t3
         clear HLL t3
         go_wp2_with fail
         go_ret2
         rw [HV4.out]
         exact ⟨_, rfl, Kd.R_nil _ _ _ _ _, HS4.out.2.s.m.below.trans (hxb.out.2.mono HS4.out.2.s.m.below.size)⟩
        have u3 : T3 = 0 := t3
        have HV4 := Aside0.mk (show V = bckL a1 a2 (qq n d) (out ++ [(⟨⟨T1, T2⟩, ⟨T1, T2⟩⟩ : Spn)]) (b + X.f0) (l0.drop (i + 1).toNat) by rw [HLL.out, if_pos ⟨t3, u3⟩])
        have t3b : (T3 != 0) = false := by simpa using t3
        have t3c : (T3 == 0) = true := by simpa using t3
        have u3b : (T3 != 0) = false := by simpa using u3
        have u3c : (T3 == 0) = true := by simpa using u3
        clear HLL t3 u3
        have hxa2 := blk_below HS4.out.1 hxb.out.2
        obtain ⟨ka0, ka1, _, _⟩ := time_cells hxa2
        obtain ⟨kb0, kb1, _, _⟩ := time_cells hxb.out.1
        have HS5 := Aside0.mk (HS4.out.2.step hxb.out.2)
        go_wp2_with (first
         | ((with_reducible refine gate_builtin (b := .append) (xs := #[.tmp 110, .tmp 114]) rfl ?_); at_builtin; refine Kd.R_append k63 (w0 := w) w.heap.size rfl (.tmp 110) (.tmp 114) 58 63 (.agg #[(.int .i64 0), (.int .i64 0), (.int .i64 0), (.int .i64 0)]) 32 rfl Try.underlying58 info63 rfl (by decide) (by omega) u11 out (⟨⟨T1, T2⟩, ⟨T1, T2⟩⟩ : Spn) [.int .i64 T1, .int .i64 T2, .int .i64 T1, .int .i64 T2] (fun k => k ≠ w.heap.size) (fun _ => False) rfl (by first | (go_simp; done) | (go_simp; rfl)) (k63_mkM _ _ _ (⟨⟨T1, T2⟩, ⟨T1, T2⟩⟩ : Spn)) (fun _ hk => hk.elim) (fun k hk he => by have := HS5.out.s.m.a; have := lt_of_some this; omega) HS5.out.s.r HS5.out.s.m.below HS5.out.s.m.below.size (by have := HW.out.2.2.2.2; omega) ?_; intro v9 w9' ho hb hg hat; have HS6 := Aside0.mk (show Sb w w9' n d v9 (out ++ [(⟨⟨T1, T2⟩, ⟨T1, T2⟩⟩ : Spn)]) from ⟨⟨blk_grown HS5.out.s.m.a hg (fun he => HS5.out.s.r.1 _ he.symm rfl), hb⟩, ho⟩); clear ho hb hg hat))
        go_roundg k1
        case measure => omega
        case rel => exact ⟨out ++ [(⟨⟨T1, T2⟩, ⟨T1, T2⟩⟩ : Spn)], b + X.f0, i + 1, by rw [HW.out.1.2], by rw [HW.out.1.1], ⟨HW.out.2.1.1, HW.out.2.1.2, HA.out.sum⟩, ⟨HV4.out⟩, ⟨HS6.out, by rw [List.length_append]; exact HW.out.2.2.2.1⟩⟩
       ·have HL2 := Aside0.mk (show V = bckL a1 a2 (qq n d) out (b + X.f0) (l0.drop (i + 1).toNat) by rw [HL1.out, if_pos (.inr hq)])
        obtain ⟨c', hc', ec'⟩ := cmpQ_ge hq
        rw [ec']
        have hcb' : decide (c' ≥ 0) = true := decide_eq_true (by omega)
        clear ec' hq ha HL HL1
        go_wp2_with fail
        go_roundg k1
        case measure => omega
        case rel => exact ⟨out, b + X.f0, i + 1, by rw [HW.out.1.2], by rw [HW.out.1.1], ⟨HW.out.2.1.1, HW.out.2.1.2, HA.out.sum⟩, ⟨HL2.out⟩, ⟨H14.out.2.s, HW.out.2.2.1⟩⟩
   ·have hlb : decide (i < (l0.length : Int)) = false := decide_eq_false hlt
    have HV4 := Aside0.mk (show V = (out, 0) by
     rw [hL.out, List.drop_of_length_le (by have := hi.out; omega)]
     rfl)
    obtain ⟨A4, c4, e4⟩ := Kd.R_slice hM.out.1.r
    subst e4
    replace hlt := eq_false hlt
    clear hi hL
    go_wp2_with fail
    go_ret2
    rw [HV4.out]
    exact ⟨_, rfl, Kd.R_mono hM.out.1.r (fun _ _ => trivial), hM.out.1.m.below⟩
end Go.Proofs.Ytpbhepdgamoiaaa.Bk
namespace Go.Proofs.Ytpbhepdgamoiaaa.E
open Go.RowKit Go Go.Proofs.YtpbhepdgamoiaaaW.PrintWords Go.Proofs.YtpbhepdgamoiaaaW.PrintLast Go.Proofs.YtpbhepdgamoiaaaW.PrintMore Go.Proofs.Ytpbhepdgamoiaaa.Pe Go.Proofs.Ytpbhepdgamoiaaa.Bk
def edit_Back.f (l0 : List (S77)) (a1 : Int) (a2 : Int) (a3_0 : Int) (a3_1 : Int) : Option ((List (S63)) × Int) := some (bckV l0 a1 a2 a3_0 a3_1)
theorem edit_Back.calls (A0 : Option Addr) (c0 : Nat) (l0 : List (S77)) (a1 : Int) (a2 : Int) (a3_0 : Int) (a3_1 : Int) (r1 : List (S63)) (r2 : Int) (w : World) (hr0 : Kd.C k77 w A0 l0.length l0) (hc0 : l0.length ≤ c0) (h : edit_Back.f l0 a1 a2 a3_0 a3_1 = some (r1, r2)) :
  Calls Try.prog 46 #[.slice A0 l0.length c0, .int .i64 a1, .int .i64 a2, .agg #[.int .i64 a3_0, .int .i64 a3_1]] w fun e w' => ∃ v0_ : Value, e = .returned (.tuple #[v0_, .int .i64 r2]) ∧ Kd.R k63 63 w' w.heap.size (fun _ => True) v0_ r1 ∧ Below w.heap.size w w' := by
 have hV : bckV l0 a1 a2 a3_0 a3_1 = (r1, r2) := Option.some.inj h
 have := back_n A0 c0 l0 a1 a2 a3_0 a3_1 w hr0 hc0
 rw [hV] at this
 exact this
end Go.Proofs.Ytpbhepdgamoiaaa.E
namespace Go.Proofs.Ytpbhepdgamoiaaa.E
open Go.Proofs.Ytpbhepdgamoiaaa.Z Go.RowKit Go.Proofs.YtpbhepdgamoiaaaW.PrintWords Go.Proofs.YtpbhepdgamoiaaaW.PrintLast Go.Proofs.YtpbhepdgamoiaaaW.PrintMore
attribute [local go_sem] max2_int min2_int max_two min_two max_three min_three max_four min_four
set_option linter.unusedVariables false
set_option linter.unusedSimpArgs false
theorem eqA37 (d : Nat) (w : World) (x0 y0 : Int) (x1 y1 : Int) :
  (Op.equalIn (d + 2) 37 (.agg #[.int .i64 x0, .int .i64 x1]) (.agg #[.int .i64 y0, .int .i64 y1])).run Try.prog w = .ok (x0 == y0 && (x1 == y1)) w := by
 refine eqA_of Try.underlying37 (by kernel_rfl) ?_
 refine eqf_cons (by rfl) (by go_simp; rfl) (by go_simp; rfl) (by go_simp) ?_
 exact eqf_last (by rfl) (by go_simp; rfl) (by go_simp; rfl) (by go_simp)
def dioramaref02_Of.l0 : Nat → Int → List Int → Option (List Int)
  | 0, _, _ => none
  | k + 1, x0, x3 => if x0 > 0 then (if x3.length < 17592186044416 then (dioramaref02_Of.l0 k (wrap64 (Int.tdiv x0 1000000000)) (x3 ++ [Int.tmod x0 1000000000])) else (none)) else (some x3)
def dioramaref02_Of.f (k : Nat) (a0 : Int) : Option (List Int) := dioramaref02_Of.l0 k a0 ([] : List Int)
set_option maxHeartbeats 8000000 in
set_option maxRecDepth 100000 in
theorem dioramaref02_Of.calls (k : Nat) (a0 : Int) (r : List Int) (w : World) (h : dioramaref02_Of.f k a0 = some r) :
  Calls Try.prog 121 #[.int .i64 a0] w fun e w' => ∃ v0_ : Value, e = .returned (v0_) ∧ Kd.R (Kd.int .i64) 3 w' w.heap.size (fun _ => True) v0_ r ∧ Below w.heap.size w w' := by
 have HB := Aside0.mk (Below.refl w.heap.size w); have H : (dioramaref02_Of.l0 k a0 ([] : List Int)) = some r := h; clear h; have H' := Aside0.mk H; clear H
 go_enter Try.func121, Try.ntmps121
 go_wp2
 go_loopg [0, 3] k (fun kq v0 v3 w' => ∃ (x0_1 : Int) (x3_1 : List Int), v0 = .int .i64 x0_1 ∧ Aside0 (dioramaref02_Of.l0 kq x0_1 x3_1 = some r) ∧ Aside0 (kq ≤ k) ∧ Aside0 (Kd.R (Kd.int .i64) 3 w' w.heap.size (fun _ => True) v3 x3_1) ∧ Aside0 (Below w.heap.size w w'))
 case atStart => exact ⟨(a0), (([] : List Int)), jz, H', ⟨Nat.le_refl _⟩, ⟨by first | exact Kd.R_nil _ _ _ _ _ | exact Kd.N_nil _ _ _ _ _ | exact Kd.V_nil _ _ _ _ _ | exact Kd.Q_nil _ _ _ _ _ | exact Kd.S_nil _ _ _ _ _⟩, ⟨bz⟩⟩
 case round =>
  clear H'
  try clear c1
  obtain ⟨x0_1, x3_1, rfl, HA, HK1, HO_3, HB⟩ := hrel
  cases gk with
  | zero => exact absurd HA.out (by simp [dioramaref02_Of.l0])
  | succ k1 =>
   have H := HA.out; clear HA; simp only [dioramaref02_Of.l0] at H
   by_cases c2 : x0_1 > 0
   ·rw [if_pos c2] at H; have c2b0 : decide (0 < x0_1) = true := decide_eq_true c2; clear c2
    by_cases c3 : x3_1.length < 17592186044416
    ·rw [if_pos c3] at H; have LMc3 := Aside0.mk c3; clear c3; obtain ⟨y170, hy170⟩ : ∃ y_ : List Int, y_ = (x3_1 ++ [Int.tmod x0_1 1000000000]) := ⟨_, rfl⟩; replace H : (dioramaref02_Of.l0 k1 (wrap64 (Int.tdiv x0_1 1000000000)) y170) = some r := by first | (rw [hy170]; with_reducible exact H) | (have H2_ := (Option.bind_some _ _).symm.trans H; rw [hy170]; with_reducible exact H2_) | (have H2_ := (Option.bind_some _ _).symm.trans H; with_reducible exact H2_) | with_reducible exact H | (rw [hy170]; exact H) | exact H
     have Ny170 := Aside0.mk hy170; clear hy170; have H' := Aside0.mk H; clear H
     go_wp2_with (first | ((with_reducible refine gate_builtin (b := .append) (xs := #[.tmp 6, .tmp 9]) rfl ?_); at_builtin; refine Kd.R_append (Kd.int .i64) (w0 := w) w.heap.size rfl (.tmp 6) (.tmp 9) 93 3 (.int .i64 0) 8 rfl Try.underlying93 info3 rfl (by decide) (by omega) u3 x3_1 (Int.tmod x0_1 1000000000) [.int .i64 (Int.tmod x0_1 1000000000)] (fun _ => True) (fun _ => False) rfl rfl ?aP (fun _ hk => hk.elim) ?aF ?aO ?aB ?aS ?aL ?_; (case aP => exact rfl); (case aB => exact bz); (case aF => exact (fun _ _ => trivial)); (case aO => exact (rz HO_3)); (case aS => exact sz); (case aL => have := LMc3.out; omega); intro v171 w4 ho hb hg hat; rw [← Ny170.out] at ho; replace HB := Aside0.mk (hb); have HO172 := Aside0.mk (ho); clear HO_3; clear ho hb hg hat))
     go_roundg k1
     case measure => have := HK1.out; omega
     case rel => exact ⟨(wrap64 (Int.tdiv x0_1 1000000000)), (y170), jz, H', ⟨by have := HK1.out; omega⟩, ⟨rz HO172⟩, ⟨bz⟩⟩
    ·rw [if_neg c3] at H
     exact absurd H (by simp)
   ·rw [if_neg c2] at H; have c2b0 : decide (0 < x0_1) = false := decide_eq_false c2; clear c2; obtain rfl := Option.some.inj H
    go_wp2
    go_ret
    exact ⟨_, ez, by (with_reducible repeat (first | apply Kd.R_alloc | apply Kd.R_drewN | apply Kd.R_drew)); exact HO_3.out, bz⟩
def dioramaref02_Compare.l0 : Nat → List Int → List Int → Int → Option (Int)
  | 0, _, _, _ => none
  | k + 1, x0, x1, x5 => if x5 ≥ 0 then (if 0 ≤ x5 then (if x5 < (x0.length : Int) then (if x5 < (x1.length : Int) then (if (rd x0 x5) < (rd x1 x5) then (some (-1)) else (if (rd x0 x5) > (rd x1 x5) then (some 1) else (dioramaref02_Compare.l0 k x0 x1 (wrap64 (x5 - 1))))) else (none)) else (none)) else (none)) else (some 0)
def dioramaref02_Compare.f (k : Nat) (l0 : List Int) (l1 : List Int) : Option (Int) := if (l0.length : Int) = (l1.length : Int) then (dioramaref02_Compare.l0 k l0 l1 (wrap64 ((l0.length : Int) - 1))) else (if (l0.length : Int) < (l1.length : Int) then (some (-1)) else (some 1))
set_option maxHeartbeats 8000000 in
set_option maxRecDepth 100000 in
theorem dioramaref02_Compare.calls (k : Nat) (A0 : Option Addr) (c0 : Nat) (l0 : List Int) (A1 : Option Addr) (c1 : Nat) (l1 : List Int) (r : Int) (w : World) (hr0 : Kd.C (Kd.int .i64) w A0 l0.length l0) (hc0 : l0.length ≤ c0) (hr1 : Kd.C (Kd.int .i64) w A1 l1.length l1) (hc1 : l1.length ≤ c1) (h : dioramaref02_Compare.f k l0 l1 = some r) :
  Calls Try.prog 122 #[.slice A0 l0.length c0, .slice A1 l1.length c1] w fun e w' => e = .returned (.int .i64 r) ∧ Drawn0 w w' := by
 have HR0 := Aside0.mk hr0; have HC0 := Aside0.mk hc0; clear hr0 hc0; have HR1 := Aside0.mk hr1; have HC1 := Aside0.mk hc1; clear hr1 hc1; have H : (if (l0.length : Int) = (l1.length : Int) then (dioramaref02_Compare.l0 k l0 l1 (wrap64 ((l0.length : Int) - 1))) else (if (l0.length : Int) < (l1.length : Int) then (some (-1)) else (some 1))) = some r := h; clear h
 by_cases c3 : (l0.length : Int) = (l1.length : Int)
 ·rw [if_pos c3] at H; have c3b0 : ((l0.length : Int) == (l1.length : Int)) = true := beq_iff_eq.mpr c3; have c3b1 : ((l0.length : Int) != (l1.length : Int)) = false := bne_eq_false_iff_eq.mpr c3; have c3b2 : (l0.length == l1.length) = true := by first | simpa using c3 | (simp at c3 ⊢; omega)
  clear c3; have H' := Aside0.mk H; clear H
  go_enter Try.func122, Try.ntmps122
  go_wp2
  repeat (go_quiet (fail); try go_wp2)
  go_loopg [5] k (fun kq v5 w' => ∃ (x5_1 : Int), v5 = .int .i64 x5_1 ∧ Aside0 (dioramaref02_Compare.l0 kq l0 l1 x5_1 = some r) ∧ Aside0 (kq ≤ k) ∧ Drawn0 w w')
  case atStart => exact ⟨(wrap64 ((l0.length : Int) - 1)), jz, H', ⟨Nat.le_refl _⟩, by repeat (first | exact Drawn0.refl _ | apply Drawn0.step)⟩
  case round =>
   clear H'
   try clear c1
   try clear p2
   try clear c3
   try clear c3b0
   try clear c3b1
   try clear c3b2
   obtain ⟨x5_1, rfl, HA, HK1, ⟨m1, rfl⟩⟩ := hrel
   cases gk with
   | zero => exact absurd HA.out (by simp [dioramaref02_Compare.l0])
   | succ k1 =>
    have H := HA.out; clear HA; simp only [dioramaref02_Compare.l0] at H
    by_cases c4 : x5_1 ≥ 0
    ·rw [if_pos c4] at H; have c4b0 : decide (0 ≤ x5_1) = true := decide_eq_true c4; clear c4
     by_cases c5 : 0 ≤ x5_1
     ·rw [if_pos c5] at H; have c5b0 : decide (0 ≤ x5_1) = true := decide_eq_true c5; clear c5
      by_cases c6 : x5_1 < (l0.length : Int)
      ·rw [if_pos c6] at H; have c6b0 : decide (x5_1 < (l0.length : Int)) = true := decide_eq_true c6; clear c6
       by_cases c7 : x5_1 < (l1.length : Int)
       ·rw [if_pos c7] at H; have c7b0 : decide (x5_1 < (l1.length : Int)) = true := decide_eq_true c7; clear c7
        by_cases c8 : (rd l0 x5_1) < (rd l1 x5_1)
        ·rw [if_pos c8] at H; have c8b0 : decide ((rd l0 x5_1) < (rd l1 x5_1)) = true := decide_eq_true c8; clear c8; obtain rfl := Option.some.inj H; have p186 : 0 ≤ (x5_1 : Int) := od; have q186 : x5_1 < (l0.length : Int) := od; obtain ⟨ad186, e186, hx186_0⟩ := Kd.at_int HR0.out x5_1 p186 q186
         cases e186
         replace p186 := eq_true p186; replace q186 := eq_true q186; have p187 : 0 ≤ (x5_1 : Int) := od; have q187 : x5_1 < (l1.length : Int) := od; obtain ⟨ad187, e187, hx187_0⟩ := Kd.at_int HR1.out x5_1 p187 q187
         cases e187
         replace p187 := eq_true p187; replace q187 := eq_true q187
         go_wp2
         repeat (go_quiet (fail); try go_wp2)
         go_ret
         exact ⟨by first | rfl | (simp; done) | (simp [*]; done), by repeat (first | exact Drawn0.refl _ | apply Drawn0.step)⟩
        ·rw [if_neg c8] at H; have c8b0 : decide ((rd l0 x5_1) < (rd l1 x5_1)) = false := decide_eq_false c8; clear c8
         by_cases c9 : (rd l0 x5_1) > (rd l1 x5_1)
         ·rw [if_pos c9] at H; have c9b0 : decide ((rd l1 x5_1) < (rd l0 x5_1)) = true := decide_eq_true c9; clear c9; obtain rfl := Option.some.inj H; have p186 : 0 ≤ (x5_1 : Int) := od; have q186 : x5_1 < (l0.length : Int) := od; obtain ⟨ad186, e186, hx186_0⟩ := Kd.at_int HR0.out x5_1 p186 q186
          cases e186
          replace p186 := eq_true p186; replace q186 := eq_true q186; have p187 : 0 ≤ (x5_1 : Int) := od; have q187 : x5_1 < (l1.length : Int) := od; obtain ⟨ad187, e187, hx187_0⟩ := Kd.at_int HR1.out x5_1 p187 q187
          cases e187
          replace p187 := eq_true p187; replace q187 := eq_true q187; have p188 : 0 ≤ (x5_1 : Int) := od; have q188 : x5_1 < (l0.length : Int) := od; obtain ⟨ad188, e188, hx188_0⟩ := Kd.at_int HR0.out x5_1 p188 q188; obtain rfl : ad186 = ad188 := (by injection e188); replace p188 := eq_true p188; replace q188 := eq_true q188; have p189 : 0 ≤ (x5_1 : Int) := od; have q189 : x5_1 < (l1.length : Int) := od; obtain ⟨ad189, e189, hx189_0⟩ := Kd.at_int HR1.out x5_1 p189 q189; obtain rfl : ad187 = ad189 := (by injection e189); replace p189 := eq_true p189; replace q189 := eq_true q189
          go_wp2
          repeat (go_quiet (fail); try go_wp2)
          go_ret
          exact ⟨by first | rfl | (simp; done) | (simp [*]; done), by repeat (first | exact Drawn0.refl _ | apply Drawn0.step)⟩
         ·rw [if_neg c9] at H; have c9b0 : decide ((rd l1 x5_1) < (rd l0 x5_1)) = false := decide_eq_false c9; clear c9; have H' := Aside0.mk H; clear H; have p186 : 0 ≤ (x5_1 : Int) := od; have q186 : x5_1 < (l0.length : Int) := od; obtain ⟨ad186, e186, hx186_0⟩ := Kd.at_int HR0.out x5_1 p186 q186
          cases e186
          replace p186 := eq_true p186; replace q186 := eq_true q186; have p187 : 0 ≤ (x5_1 : Int) := od; have q187 : x5_1 < (l1.length : Int) := od; obtain ⟨ad187, e187, hx187_0⟩ := Kd.at_int HR1.out x5_1 p187 q187
          cases e187
          replace p187 := eq_true p187; replace q187 := eq_true q187; have p188 : 0 ≤ (x5_1 : Int) := od; have q188 : x5_1 < (l0.length : Int) := od; obtain ⟨ad188, e188, hx188_0⟩ := Kd.at_int HR0.out x5_1 p188 q188; obtain rfl : ad186 = ad188 := (by injection e188); replace p188 := eq_true p188; replace q188 := eq_true q188; have p189 : 0 ≤ (x5_1 : Int) := od; have q189 : x5_1 < (l1.length : Int) := od; obtain ⟨ad189, e189, hx189_0⟩ := Kd.at_int HR1.out x5_1 p189 q189; obtain rfl : ad187 = ad189 := (by injection e189); replace p189 := eq_true p189; replace q189 := eq_true q189
          go_wp2
          repeat (go_quiet (fail); try go_wp2)
          go_roundg k1
          case measure => have := HK1.out; omega
          case rel => exact ⟨(wrap64 (x5_1 - 1)), jz, H', ⟨by have := HK1.out; omega⟩, by repeat (first | exact Drawn0.refl _ | apply Drawn0.step)⟩
       ·rw [if_neg c7] at H
        exact absurd H (by simp)
      ·rw [if_neg c6] at H
       exact absurd H (by simp)
     ·rw [if_neg c5] at H
      exact absurd H (by simp)
    ·rw [if_neg c4] at H; have c4b0 : decide (0 ≤ x5_1) = false := decide_eq_false c4; clear c4; obtain rfl := Option.some.inj H
     go_wp2
     repeat (go_quiet (fail); try go_wp2)
     go_ret
     exact ⟨by first | rfl | (simp; done) | (simp [*]; done), by repeat (first | exact Drawn0.refl _ | apply Drawn0.step)⟩
 ·rw [if_neg c3] at H; have c3b0 : ((l0.length : Int) == (l1.length : Int)) = false := beq_eq_false_iff_ne.mpr c3; have c3b1 : ((l0.length : Int) != (l1.length : Int)) = true := bne_iff_ne.mpr c3; have c3b2 : (l0.length == l1.length) = false := by first | simpa using c3 | (simp at c3 ⊢; omega)
  by_cases c10 : (l0.length : Int) < (l1.length : Int)
  ·rw [if_pos c10] at H; have c10b0 : decide ((l0.length : Int) < (l1.length : Int)) = true := decide_eq_true c10; have c10b1 : decide (l0.length < l1.length) = true := decide_eq_true (Int.ofNat_lt.mp c10); clear c10; obtain rfl := Option.some.inj H
   go_enter Try.func122, Try.ntmps122
   go_wp2
   repeat (go_quiet (fail); try go_wp2)
   go_ret
   exact ⟨by first | rfl | (simp; done) | (simp [*]; done), by repeat (first | exact Drawn0.refl _ | apply Drawn0.step)⟩
  ·rw [if_neg c10] at H; have c10b0 : decide ((l0.length : Int) < (l1.length : Int)) = false := decide_eq_false c10; have c10b1 : decide (l0.length < l1.length) = false := decide_eq_false (fun h => c10 (Int.ofNat_lt.mpr h))
   clear c10; obtain rfl := Option.some.inj H
   go_enter Try.func122, Try.ntmps122
   go_wp2
   repeat (go_quiet (fail); try go_wp2)
   go_ret
   exact ⟨by first | rfl | (simp; done) | (simp [*]; done), by repeat (first | exact Drawn0.refl _ | apply Drawn0.step)⟩
def dioramaref02_trimmed.l0 : Nat → List Int → Int → Option (List Int)
  | 0, _, _ => none
  | k + 1, x0, x3 => if x3 > 0 then (if 0 ≤ (wrap64 (x3 - 1)) then (if (wrap64 (x3 - 1)) < (x0.length : Int) then (if (rd x0 (wrap64 (x3 - 1))) = 0 then (dioramaref02_trimmed.l0 k x0 (wrap64 (x3 - 1))) else (if 0 ≤ x3 then (if x3 ≤ (x0.length : Int) then (some (x0.take (x3 : Int).toNat)) else (none)) else (none))) else (none)) else (none)) else (if 0 ≤ x3 then (if x3 ≤ (x0.length : Int) then (some (x0.take (x3 : Int).toNat)) else (none)) else (none))
def dioramaref02_trimmed.f (k : Nat) (l0 : List Int) : Option (List Int) := dioramaref02_trimmed.l0 k l0 (l0.length : Int)
set_option maxHeartbeats 8000000 in
set_option maxRecDepth 100000 in
theorem dioramaref02_trimmed.calls (k : Nat) (P0_ : Nat → Prop) (u9000_ : Value) (l0 : List Int) (r : List Int) (w0 w : World) (hB : Below w0.heap.size w0 w) (ho0 : Kd.R (Kd.int .i64) 3 w w0.heap.size P0_ u9000_ l0) (h : dioramaref02_trimmed.f k l0 = some r) :
  Calls Try.prog 154 #[u9000_] w fun e w' => ∃ v0_ : Value, e = .returned (v0_) ∧ Kd.R (Kd.int .i64) 3 w' w0.heap.size (fun k_ => (P0_ k_ ∨ w.heap.size ≤ k_)) v0_ r ∧ Below w0.heap.size w0 w' ∧ Kept w w' (fun k_ => P0_ k_) := by
 have HO0 := Aside0.mk (show Kd.R (Kd.int .i64) 3 w w0.heap.size (fun k_ => (P0_ k_ ∨ w.heap.size ≤ k_)) u9000_ l0 from Kd.R_mono ho0 (fun k_ hk => (.inl hk)))
 have HK := Aside0.mk (Kept.refl w (fun k_ => P0_ k_)); have HW0 := Aside0.mk hB.size; have HB := Aside0.mk hB; clear hB; have H : (dioramaref02_trimmed.l0 k l0 (l0.length : Int)) = some r := h; clear h; have H' := Aside0.mk H; clear H; obtain ⟨Ao2, co2, eo2⟩ := Kd.R_slice HO0.out; subst eo2
 go_enter Try.func154, Try.ntmps154
 go_wp2
 go_loopg [3] k (fun kq v3 w' => ∃ (x3_1 : Int), v3 = .int .i64 x3_1 ∧ Aside0 (dioramaref02_trimmed.l0 kq l0 x3_1 = some r) ∧ Aside0 (kq ≤ k) ∧ Aside0 (Kd.R (Kd.int .i64) 3 w' w0.heap.size (fun k_ => (P0_ k_ ∨ w.heap.size ≤ k_)) (.slice Ao2 l0.length co2) l0) ∧ Aside0 (Kept w w' (fun k_ => P0_ k_)) ∧ Aside0 (Below w0.heap.size w0 w'))
 case atStart => exact ⟨((l0.length : Int)), jz, H', ⟨Nat.le_refl _⟩, ⟨rz HO0⟩, ⟨by repeat (first | (with_reducible first | exact HK.out | apply Kept.alloc | apply Kept.drewN | apply Kept.drew) | exact HK.out)⟩, ⟨bz⟩⟩
 case round =>
  clear H'
  try clear c1
  try clear p2
  obtain ⟨x3_1, rfl, HA, HK1, HO_0, HK, HB⟩ := hrel
  cases gk with
  | zero => exact absurd HA.out (by simp [dioramaref02_trimmed.l0])
  | succ k1 =>
   have H := HA.out; clear HA; simp only [dioramaref02_trimmed.l0] at H
   by_cases c3 : x3_1 > 0
   ·rw [if_pos c3] at H; have c3b0 : decide (0 < x3_1) = true := decide_eq_true c3; clear c3; obtain ⟨ji4, hji4⟩ : ∃ j_ : Int, (wrap64 (x3_1 - 1)) = j_ := ⟨_, rfl⟩; replace H : (if 0 ≤ (ji4) then (if (ji4) < (l0.length : Int) then (if (rd l0 (ji4)) = 0 then (dioramaref02_trimmed.l0 k1 l0 ji4) else (if 0 ≤ x3_1 then (if x3_1 ≤ (l0.length : Int) then (some (l0.take (x3_1 : Int).toNat)) else (none)) else (none))) else (none)) else (none)) = some r := by first | (rw [hji4] at H; exact H) | (simp only [hji4] at H ⊢; exact H)
    have hji4w : (IntKind.i64.wrap (x3_1 - 1)) = ji4 := (i64_w _).trans hji4
    by_cases c5 : 0 ≤ (ji4)
    ·rw [if_pos c5] at H; have c5b0 : decide (0 ≤ (ji4)) = true := decide_eq_true c5; clear c5
     by_cases c6 : (ji4) < (l0.length : Int)
     ·rw [if_pos c6] at H; have c6b0 : decide ((ji4) < (l0.length : Int)) = true := decide_eq_true c6; clear c6
      by_cases c7 : (rd l0 (ji4)) = 0
      ·rw [if_pos c7] at H; have c7b0 : ((rd l0 (ji4)) == 0) = true := beq_iff_eq.mpr c7; have c7b1 : ((rd l0 (ji4)) != 0) = false := bne_eq_false_iff_eq.mpr c7; clear c7; have H' := Aside0.mk H; clear H; have p190 : 0 ≤ ((ji4) : Int) := od; have q190 : (ji4) < (l0.length : Int) := od; obtain ⟨ad190, e190, hx190_0⟩ := Kd.at_int (Kd.R_reads' HO_0.out).2.2 (ji4) p190 q190
       cases e190
       replace p190 := eq_true p190; replace q190 := eq_true q190
       go_wp2
       go_roundg k1
       case measure => have := HK1.out; omega
       case rel => exact ⟨(ji4), (by first | rfl | (simp; done) | (simp only [← hji4] <;> (first | rfl | simp)) | (simp [*]; done)), H', ⟨by have := HK1.out; omega⟩, ⟨rz HO_0⟩, ⟨by repeat (first | (with_reducible first | exact HK.out | apply Kept.alloc | apply Kept.drewN | apply Kept.drew) | exact HK.out)⟩, ⟨bz⟩⟩
      ·rw [if_neg c7] at H; have c7b0 : ((rd l0 (ji4)) == 0) = false := beq_eq_false_iff_ne.mpr c7; have c7b1 : ((rd l0 (ji4)) != 0) = true := bne_iff_ne.mpr c7
       by_cases c8 : 0 ≤ x3_1
       ·rw [if_pos c8] at H; have c8b0 := eq_true c8; have c8b1 : decide (0 ≤ x3_1) = true := decide_eq_true c8; clear c8
        by_cases c9 : x3_1 ≤ (l0.length : Int)
        ·rw [if_pos c9] at H; have c9b0 := eq_true c9; have c9b1 : decide (x3_1 ≤ (l0.length : Int)) = true := decide_eq_true c9; clear c9; obtain ⟨y191, hy191⟩ : ∃ y_ : List Int, y_ = (l0.take (x3_1 : Int).toNat) := ⟨_, rfl⟩; replace H : (some y191) = some r := by first | (rw [hy191]; with_reducible exact H) | (have H2_ := (Option.bind_some _ _).symm.trans H; rw [hy191]; with_reducible exact H2_) | (have H2_ := (Option.bind_some _ _).symm.trans H; with_reducible exact H2_) | with_reducible exact H | (rw [hy191]; exact H) | exact H
         have Ny191 := Aside0.mk hy191; clear hy191; obtain rfl := Option.some.inj H; have p190 : 0 ≤ ((ji4) : Int) := od; have q190 : (ji4) < (l0.length : Int) := od; obtain ⟨ad190, e190, hx190_0⟩ := Kd.at_int (Kd.R_reads' HO_0.out).2.2 (ji4) p190 q190
         cases e190
         replace p190 := eq_true p190; replace q190 := eq_true q190; have q10 : (x3_1 : Int) ≤ ((l0.length : Int) : Int) := od; obtain ⟨i010, hi010, _, hsz10, _⟩ := info_parts info3; have hcut10 := cut_to (P := Try.prog) 93 3 .i64 Try.underlying93 hi010 (some ad190) l0.length co2 x3_1 (od) q10 (Kd.R_reads' HO_0.out).2.1; have hr10 := Kd.R_take (m := (x3_1 : Int).toNat) HO_0.out (by omega); have hy10 : y191.length = (x3_1 : Int).toNat := (by rw [Ny191.out, List.length_take]; omega); rw [← Ny191.out] at hr10; rw [← hy10] at hr10 hcut10; clear hy10 hi010 hsz10 HO_0; have HO193 := Aside0.mk hr10; clear hr10; replace q10 := eq_true q10
         go_wp2
         go_ret
         exact ⟨_, by first | rfl | (simp [errW_none, errW_some] <;> rfl) | (simp only [← hji4]; first | rfl | (simp [errW_none, errW_some] <;> rfl)) | (simp [*, errW_none, errW_some] <;> rfl), by (with_reducible repeat (first | apply Kd.R_alloc | apply Kd.R_drewN | apply Kd.R_drew)); exact HO193.out, bz, by repeat (first | (with_reducible first | exact HK.out | apply Kept.alloc | apply Kept.drewN | apply Kept.drew) | exact HK.out)⟩
        ·rw [if_neg c9] at H
         exact absurd H (by simp)
       ·rw [if_neg c8] at H
        exact absurd H (by simp)
     ·rw [if_neg c6] at H
      exact absurd H (by simp)
    ·rw [if_neg c5] at H
     exact absurd H (by simp)
   ·rw [if_neg c3] at H; have c3b0 : decide (0 < x3_1) = false := decide_eq_false c3; clear c3
    by_cases c11 : 0 ≤ x3_1
    ·rw [if_pos c11] at H; have c11b0 := eq_true c11; have c11b1 : decide (0 ≤ x3_1) = true := decide_eq_true c11; clear c11
     by_cases c12 : x3_1 ≤ (l0.length : Int)
     ·rw [if_pos c12] at H; have c12b0 := eq_true c12; have c12b1 : decide (x3_1 ≤ (l0.length : Int)) = true := decide_eq_true c12; clear c12; obtain ⟨y194, hy194⟩ : ∃ y_ : List Int, y_ = (l0.take (x3_1 : Int).toNat) := ⟨_, rfl⟩; replace H : (some y194) = some r := by first | (rw [hy194]; with_reducible exact H) | (have H2_ := (Option.bind_some _ _).symm.trans H; rw [hy194]; with_reducible exact H2_) | (have H2_ := (Option.bind_some _ _).symm.trans H; with_reducible exact H2_) | with_reducible exact H | (rw [hy194]; exact H) | exact H
      have Ny194 := Aside0.mk hy194; clear hy194; obtain rfl := Option.some.inj H; have q13 : (x3_1 : Int) ≤ ((l0.length : Int) : Int) := od; obtain ⟨i013, hi013, _, hsz13, _⟩ := info_parts info3; have hcut13 := cut_to (P := Try.prog) 93 3 .i64 Try.underlying93 hi013 Ao2 l0.length co2 x3_1 (od) q13 (Kd.R_reads' HO_0.out).2.1; have hr13 := Kd.R_take (m := (x3_1 : Int).toNat) HO_0.out (by omega); have hy13 : y194.length = (x3_1 : Int).toNat := (by rw [Ny194.out, List.length_take]; omega); rw [← Ny194.out] at hr13; rw [← hy13] at hr13 hcut13; clear hy13 hi013 hsz13 HO_0; have HO196 := Aside0.mk hr13; clear hr13; replace q13 := eq_true q13
      go_wp2
      go_ret
      exact ⟨_, ez, by (with_reducible repeat (first | apply Kd.R_alloc | apply Kd.R_drewN | apply Kd.R_drew)); exact HO196.out, bz, by repeat (first | (with_reducible first | exact HK.out | apply Kept.alloc | apply Kept.drewN | apply Kept.drew) | exact HK.out)⟩
     ·rw [if_neg c12] at H
      exact absurd H (by simp)
    ·rw [if_neg c11] at H
     exact absurd H (by simp)
def dioramaref02_digit.f (l0 : List Int) (a1 : Int) : Option (Int) := if a1 < (l0.length : Int) then (if 0 ≤ a1 then (some (rd l0 a1)) else (none)) else (some 0)
set_option maxHeartbeats 8000000 in
set_option maxRecDepth 100000 in
theorem dioramaref02_digit.calls (A0 : Option Addr) (c0 : Nat) (l0 : List Int) (a1 : Int) (r : Int) (w : World) (hr0 : Kd.C (Kd.int .i64) w A0 l0.length l0) (hc0 : l0.length ≤ c0) (h : dioramaref02_digit.f l0 a1 = some r) :
  Calls Try.prog 155 #[.slice A0 l0.length c0, .int .i64 a1] w fun e w' => e = .returned (.int .i64 r) ∧ Drawn0 w w' := by
 have HR0 := Aside0.mk hr0; have HC0 := Aside0.mk hc0; clear hr0 hc0; have H : (if a1 < (l0.length : Int) then (if 0 ≤ a1 then (some (rd l0 a1)) else (none)) else (some 0)) = some r := h; clear h
 by_cases c3 : a1 < (l0.length : Int)
 ·rw [if_pos c3] at H; have c3b0 : decide (a1 < (l0.length : Int)) = true := decide_eq_true c3; clear c3
  by_cases c4 : 0 ≤ a1
  ·rw [if_pos c4] at H; have c4b0 : decide (0 ≤ a1) = true := decide_eq_true c4; clear c4; obtain rfl := Option.some.inj H; have p197 : 0 ≤ (a1 : Int) := od; have q197 : a1 < (l0.length : Int) := od; obtain ⟨ad197, e197, hx197_0⟩ := Kd.at_int HR0.out a1 p197 q197
   cases e197
   replace p197 := eq_true p197; replace q197 := eq_true q197
   go_enter Try.func155, Try.ntmps155
   go_wp2
   go_ret
   exact ⟨by first | rfl | (simp; done) | (simp [*]; done), by repeat (first | exact Drawn0.refl _ | apply Drawn0.step)⟩
  ·rw [if_neg c4] at H
   exact absurd H (by simp)
 ·rw [if_neg c3] at H; have c3b0 : decide (a1 < (l0.length : Int)) = false := decide_eq_false c3; clear c3; obtain rfl := Option.some.inj H
  go_enter Try.func155, Try.ntmps155
  go_wp2
  go_ret
  exact ⟨by first | rfl | (simp; done) | (simp [*]; done), by repeat (first | exact Drawn0.refl _ | apply Drawn0.step)⟩
end Go.Proofs.Ytpbhepdgamoiaaa.E

/-
  Printed walks.
-/
import Derived.Test.YtpbhepdgamoiaaaQREditChainsa
import Derived.Test.YtpbhepdgamoiaaaQREditChainsc
namespace Go.Proofs.Ytpbhepdgamoiaaa.E
open Go.Proofs.Ytpbhepdgamoiaaa.Z Go.RowKit Go.Proofs.YtpbhepdgamoiaaaW.PrintWords Go.Proofs.YtpbhepdgamoiaaaW.PrintLast Go.Proofs.YtpbhepdgamoiaaaW.PrintMore
attribute [local go_sem] max2_int min2_int max_two min_two max_three min_three max_four min_four
set_option linter.unusedVariables false
set_option linter.unusedSimpArgs false
mutual
def edit_clocks_normal.l0 : Nat → List (S77) → Int → List (S77) → Int → Int → Int → Int → Option ((List (S77)) × Int)
  | 0, _, _, _, _, _, _, _ => none
  | k + 1, x6, x7, x11, x12, x13, x113000, x113001 => if x13 < x12 then (if 0 ≤ x13 then (if x13 < (x11.length : Int) then ((edit_lowest.f ((rd_T77 x11 x13).f0) ((rd_T77 x11 x13).f1) ((rd_T77 x11 x13).f2) ((rd_T77 x11 x13).f3)).bind fun bt115 => (if (wrap64 (x7 + bt115.1)) > 1099511627776 then (some (([] : List (S77)), 2)) else (edit_clocks_normal.l1 k x6 (wrap64 (x7 + bt115.1)) (x6.length : Int) x11 x12 x13 x113000 x113001 bt115.1 bt115.2.1 bt115.2.2.1 bt115.2.2.2))) else (none)) else (none)) else (if (x6.length : Int) > 20 then (some (([] : List (S77)), 2)) else (some (x6, 0)))
def edit_clocks_normal.l1 : Nat → List (S77) → Int → Int → List (S77) → Int → Int → Int → Int → Int → Int → Int → Int → Option ((List (S77)) × Int)
  | 0, _, _, _, _, _, _, _, _, _, _, _, _ => none
  | k + 1, x6, x7, x10, x11, x12, x13, x113000, x113001, x115000, x115001, x115002, x115003 => if x10 > 0 then (if 0 ≤ (wrap64 (x10 - 1)) then (if (wrap64 (x10 - 1)) < (x6.length : Int) then ((edit_clocks_over.f x113000 x113001 ((rd_T77 x6 (wrap64 (x10 - 1))).f0) ((rd_T77 x6 (wrap64 (x10 - 1))).f1) ((rd_T77 x6 (wrap64 (x10 - 1))).f2) ((rd_T77 x6 (wrap64 (x10 - 1))).f3) x115000 x115001 x115002 x115003).bind fun t120 => (if t120 = true then (edit_clocks_normal.l0 k (x6.set ((wrap64 (x10 - 1)) : Int).toNat (⟨wrap64 (((rd_T77 x6 (wrap64 (x10 - 1))).f0) + x115000), (rd_T77 x6 (wrap64 (x10 - 1))).f1, (rd_T77 x6 (wrap64 (x10 - 1))).f2, (rd_T77 x6 (wrap64 (x10 - 1))).f3⟩ : S77)) x7 x11 x12 (wrap64 (x13 + 1)) x113000 x113001) else (if x6.length < 4398046511104 then (edit_clocks_normal.l0 k (x6 ++ [(⟨x115000, x115001, x115002, x115003⟩ : S77)]) x7 x11 x12 (wrap64 (x13 + 1)) x113000 x113001) else (none)))) else (none)) else (none)) else (if x6.length < 4398046511104 then (edit_clocks_normal.l0 k (x6 ++ [(⟨x115000, x115001, x115002, x115003⟩ : S77)]) x7 x11 x12 (wrap64 (x13 + 1)) x113000 x113001) else (none))
end
def edit_clocks_normal.f (k : Nat) (a0_0 : Int) (a0_1 : Int) (l1 : List (S77)) : Option ((List (S77)) × Int) := edit_clocks_normal.l0 k ([] : List (S77)) 0 l1 (l1.length : Int) 0 a0_0 a0_1
set_option maxHeartbeats 8000000 in
set_option maxRecDepth 100000 in
theorem edit_clocks_normal.calls (k : Nat) (a0_0 : Int) (a0_1 : Int) (A1 : Option Addr) (c1 : Nat) (l1 : List (S77)) (r1 : List (S77)) (r2 : Int) (w : World) (hr1 : Kd.C k77 w A1 l1.length l1) (hc1 : l1.length ≤ c1) (h : edit_clocks_normal.f k a0_0 a0_1 l1 = some (r1, r2)) :
  Calls Try.prog 57 #[.agg #[.int .i64 a0_0, .int .i64 a0_1], .slice A1 l1.length c1] w fun e w' => ∃ v0_ : Value, e = .returned (.tuple #[v0_, .int .i64 r2]) ∧ Kd.R k77 77 w' w.heap.size (fun _ => True) v0_ r1 ∧ Below w.heap.size w w' := by
 have hu79 := Try.underlying79; have hu77 := Try.underlying77; have HR1 := Aside0.mk hr1; have HC1 := Aside0.mk hc1; clear hr1 hc1; have HB := Aside0.mk (Below.refl w.heap.size w); have H : (edit_clocks_normal.l0 k ([] : List (S77)) 0 l1 (l1.length : Int) 0 a0_0 a0_1) = some (r1, r2) := h; clear h; have H' := Aside0.mk H; clear H
 go_enter Try.func57, Try.ntmps57
 go_wp2_with (first | ((with_reducible refine gate_dst (N := 2) rfl ?_); refine zB 2 79 #[.int .i64 a0_0, .int .i64 a0_1] ?_; intro gb112 hg w3 hbox hb; have BK112 := Aside0.mk hbox; have GW112 := gz hg; have GE112 := gz hg; replace HB := bp hb; clear hb hbox hg))
 go_step3
 go_wp2
 go_step3
 go_wp2
 go_loopg [6, 7, 13] k (fun kq v6 v7 v13 w' => ∃ (x6_1 : List (S77)) (x7_1 : Int) (x13_1 : Int), v7 = .int .i64 x7_1 ∧ v13 = .int .i64 x13_1 ∧ Aside0 (edit_clocks_normal.l0 kq x6_1 x7_1 l1 (l1.length : Int) x13_1 a0_0 a0_1 = some (r1, r2)) ∧ Aside0 (kq ≤ k) ∧ Aside0 (Kd.R k77 77 w' w.heap.size (fun _ => True) v6 x6_1) ∧ Aside0 (w'.heap[gb112]? = some (.cells #[.int .i64 a0_0, .int .i64 a0_1] 79 (0, 0))) ∧ Aside0 (Below w.heap.size w w'))
 case atStart => exact ⟨(([] : List (S77))), (0), (0), jz, jz, H', ⟨Nat.le_refl _⟩, ⟨by first | exact Kd.R_nil _ _ _ _ _ | exact Kd.N_nil _ _ _ _ _ | exact Kd.V_nil _ _ _ _ _ | exact Kd.Q_nil _ _ _ _ _ | exact Kd.S_nil _ _ _ _ _⟩, ⟨kz⟩, ⟨bz⟩⟩
 case round =>
  clear H'
  try clear c1
  try clear p2
  obtain ⟨x6_1, x7_1, x13_1, rfl, rfl, HA, HK1, HO_6, BK112, HB⟩ := hrel
  cases gk with
  | zero => exact absurd HA.out (by simp [edit_clocks_normal.l0])
  | succ k1 =>
   have H := HA.out; clear HA; simp only [edit_clocks_normal.l0] at H
   by_cases c4 : x13_1 < (l1.length : Int)
   ·rw [if_pos c4] at H; have c4b0 : decide (x13_1 < (l1.length : Int)) = true := decide_eq_true c4; clear c4
    by_cases c5 : 0 ≤ x13_1
    ·rw [if_pos c5] at H; have c5b0 : decide (0 ≤ x13_1) = true := decide_eq_true c5; clear c5
     by_cases c6 : x13_1 < (l1.length : Int)
     ·rw [if_pos c6] at H; have c6b0 : decide (x13_1 < (l1.length : Int)) = true := decide_eq_true c6; clear c6; obtain ⟨⟨t115, t116, t117, t118⟩, A7, H⟩ := ob H
      (try dsimp only at H)
      by_cases c8 : (wrap64 (x7_1 + t115)) > 1099511627776
      ·rw [if_pos c8] at H; have c8b0 : decide (1099511627776 < (wrap64 (x7_1 + t115))) = true := decide_eq_true c8; clear c8; simp only [Option.some.injEq, Prod.mk.injEq] at H; obtain ⟨rfl, rfl⟩ := H; have p113 : 0 ≤ (x13_1 : Int) := od; have q113 : x13_1 < (l1.length : Int) := od; obtain ⟨ad113, e113, hx113_0, hx113_1, hx113_2, hx113_3⟩ := at_T77 HR1.out x13_1 p113 q113
       cases e113
       replace hx113_0 := cl HB hx113_0; replace hx113_1 := cl HB hx113_1; replace hx113_2 := cl HB hx113_2; replace hx113_3 := cl HB hx113_3; replace p113 := eq_true p113; replace q113 := eq_true q113
       go_wp2_with (first | ((with_reducible refine gate_dst (N := 9) rfl ?_); refine zB 9 77 #[.int .i64 0, .int .i64 0, .int .i64 0, .int .i64 0] ?_; intro gb114 hg w9 hbox hb; replace HO_6 := Aside0.mk (Kd.R_below (Kd.R_elderB (rz HO_6) gb114 (Nat.le_of_eq hg.symm)) hb); have BK114 := Aside0.mk hbox; have GW114 := gz hg; have GE114 := gz hg; replace HB := bp hb; have NB112_114 := Aside0.mk ((by rw [hg]; exact Nat.ne_of_lt (bl BK112) : gb112 ≠ gb114)); have NB114_112 := Aside0.mk ((by rw [hg]; exact Nat.ne_of_gt (bl BK112) : gb114 ≠ gb112)); replace BK112 := kb BK112 hb; clear hb hbox hg; have hnb10 := NB114_112.out; have hnc10 := NB112_114.out; obtain ⟨hcz11_0, hcz11_1, hcz11_2, hcz11_3, hfz11_0, hfz11_1, hfz11_2, hfz11_3⟩ := xc4 BK114) | ((with_reducible refine gate_callee (f := 71) rfl ?_); refine zC 18 Try.func71 #[.agg #[.int .i64 ((rd_T77 l1 x13_1).f0), .int .i64 ((rd_T77 l1 x13_1).f1), .int .i64 ((rd_T77 l1 x13_1).f2), .int .i64 ((rd_T77 l1 x13_1).f3)]] ?_; (with_reducible refine (edit_lowest.calls ((rd_T77 l1 x13_1).f0) ((rd_T77 l1 x13_1).f1) ((rd_T77 l1 x13_1).f2) ((rd_T77 l1 x13_1).f3) t115 t116 t117 t118 _ A7.out).mono ?_); rintro e w12 ⟨rfl, hb⟩; refine ⟨_, rfl, ?_⟩; replace HO_6 := Aside0.mk (Kd.R_below (by (with_reducible repeat (first | apply Kd.R_alloc | apply Kd.R_drewN | apply Kd.R_drew)); exact (Kd.R_mono (Kd.R_far (p := ⟨gb114, 3, none⟩) (Kd.R_far (p := ⟨gb114, 2, none⟩) (Kd.R_far (p := ⟨gb114, 1, none⟩) (Kd.R_far (p := ⟨gb114, 0, none⟩) (Kd.R_mono HO_6.out (fun k_ hk => (⟨hk, hk.2⟩ : _ ∧ k_ ≠ gb114))) (fun _ hk => hk.2) (.int .i64 ((rd_T77 l1 x13_1).f0))) (fun _ hk => hk.2) (.int .i64 ((rd_T77 l1 x13_1).f1))) (fun _ hk => hk.2) (.int .i64 ((rd_T77 l1 x13_1).f2))) (fun _ hk => hk.2) (.int .i64 ((rd_T77 l1 x13_1).f3))) (fun _ h_ => h_.1))) hb); replace BK112 := Aside0.mk (blk_below (g := gb112) (o := .cells #[.int .i64 a0_0, .int .i64 a0_1] 79 (0, 0)) (by (with_reducible repeat (first | refine blk_drewN ?_ _ | refine blk_drew ?_ | refine blk_alloc ?_ _)); refine blk_far ?_ NB112_114.out _; (with_reducible repeat (first | refine blk_drewN ?_ _ | refine blk_drew ?_ | refine blk_alloc ?_ _)); refine blk_far ?_ NB112_114.out _; (with_reducible repeat (first | refine blk_drewN ?_ _ | refine blk_drew ?_ | refine blk_alloc ?_ _)); refine blk_far ?_ NB112_114.out _; (with_reducible repeat (first | refine blk_drewN ?_ _ | refine blk_drew ?_ | refine blk_alloc ?_ _)); refine blk_far ?_ NB112_114.out _; (with_reducible repeat (first | refine blk_drewN ?_ _ | refine blk_drew ?_ | refine blk_alloc ?_ _)); exact BK112.out) hb); replace BK114 := Aside0.mk (blk_below (g := gb114) (o := .cells #[.int .i64 ((rd_T77 l1 x13_1).f0), .int .i64 ((rd_T77 l1 x13_1).f1), .int .i64 ((rd_T77 l1 x13_1).f2), .int .i64 ((rd_T77 l1 x13_1).f3)] 77 (0, 0)) (by (with_reducible repeat (first | refine blk_drewN ?_ _ | refine blk_drew ?_ | refine blk_alloc ?_ _)); refine blk_put (cs := #[.int .i64 ((rd_T77 l1 x13_1).f0), .int .i64 ((rd_T77 l1 x13_1).f1), .int .i64 ((rd_T77 l1 x13_1).f2), .int .i64 0]) ?_ 3 _ rfl; (with_reducible repeat (first | refine blk_drewN ?_ _ | refine blk_drew ?_ | refine blk_alloc ?_ _)); refine blk_put (cs := #[.int .i64 ((rd_T77 l1 x13_1).f0), .int .i64 ((rd_T77 l1 x13_1).f1), .int .i64 0, .int .i64 0]) ?_ 2 _ rfl; (with_reducible repeat (first | refine blk_drewN ?_ _ | refine blk_drew ?_ | refine blk_alloc ?_ _)); refine blk_put (cs := #[.int .i64 ((rd_T77 l1 x13_1).f0), .int .i64 0, .int .i64 0, .int .i64 0]) ?_ 1 _ rfl; (with_reducible repeat (first | refine blk_drewN ?_ _ | refine blk_drew ?_ | refine blk_alloc ?_ _)); refine blk_put (cs := #[.int .i64 0, .int .i64 0, .int .i64 0, .int .i64 0]) ?_ 0 _ rfl; (with_reducible repeat (first | refine blk_drewN ?_ _ | refine blk_drew ?_ | refine blk_alloc ?_ _)); exact BK114.out) hb); replace HB := bp hb; clear hb; obtain ⟨hcz13_0, hcz13_1, hcz13_2, hcz13_3, hfz13_0, hfz13_1, hfz13_2, hfz13_3⟩ := xc4 BK114))
       (try rw [Exit.noGoto_ret])
       go_ret2
       exact ⟨_, ez, by first | exact Kd.R_nil _ _ _ _ _ | exact Kd.N_nil _ _ _ _ _ | exact Kd.V_nil _ _ _ _ _ | exact Kd.Q_nil _ _ _ _ _ | exact Kd.S_nil _ _ _ _ _, bz⟩
      ·rw [if_neg c8] at H; have c8b0 : decide (1099511627776 < (wrap64 (x7_1 + t115))) = false := decide_eq_false c8; clear c8; have H' := Aside0.mk H; clear H; have p113 : 0 ≤ (x13_1 : Int) := od; have q113 : x13_1 < (l1.length : Int) := od; obtain ⟨ad113, e113, hx113_0, hx113_1, hx113_2, hx113_3⟩ := at_T77 HR1.out x13_1 p113 q113
       cases e113
       replace hx113_0 := cl HB hx113_0; replace hx113_1 := cl HB hx113_1; replace hx113_2 := cl HB hx113_2; replace hx113_3 := cl HB hx113_3; replace p113 := eq_true p113; replace q113 := eq_true q113
       go_wp2_with (first | ((with_reducible refine gate_dst (N := 9) rfl ?_); refine zB 9 77 #[.int .i64 0, .int .i64 0, .int .i64 0, .int .i64 0] ?_; intro gb114 hg w14 hbox hb; replace HO_6 := Aside0.mk (Kd.R_below (Kd.R_elderB (rz HO_6) gb114 (Nat.le_of_eq hg.symm)) hb); have BK114 := Aside0.mk hbox; have GW114 := gz hg; have GE114 := gz hg; replace HB := bp hb; have NB112_114 := Aside0.mk ((by rw [hg]; exact Nat.ne_of_lt (bl BK112) : gb112 ≠ gb114)); have NB114_112 := Aside0.mk ((by rw [hg]; exact Nat.ne_of_gt (bl BK112) : gb114 ≠ gb112)); replace BK112 := kb BK112 hb; clear hb hbox hg; have hnb15 := NB114_112.out; have hnc15 := NB112_114.out; obtain ⟨hcz16_0, hcz16_1, hcz16_2, hcz16_3, hfz16_0, hfz16_1, hfz16_2, hfz16_3⟩ := xc4 BK114) | ((with_reducible refine gate_callee (f := 71) rfl ?_); refine zC 18 Try.func71 #[.agg #[.int .i64 ((rd_T77 l1 x13_1).f0), .int .i64 ((rd_T77 l1 x13_1).f1), .int .i64 ((rd_T77 l1 x13_1).f2), .int .i64 ((rd_T77 l1 x13_1).f3)]] ?_; (with_reducible refine (edit_lowest.calls ((rd_T77 l1 x13_1).f0) ((rd_T77 l1 x13_1).f1) ((rd_T77 l1 x13_1).f2) ((rd_T77 l1 x13_1).f3) t115 t116 t117 t118 _ A7.out).mono ?_); rintro e w17 ⟨rfl, hb⟩; refine ⟨_, rfl, ?_⟩; replace HO_6 := Aside0.mk (Kd.R_below (by (with_reducible repeat (first | apply Kd.R_alloc | apply Kd.R_drewN | apply Kd.R_drew)); exact (Kd.R_mono (Kd.R_far (p := ⟨gb114, 3, none⟩) (Kd.R_far (p := ⟨gb114, 2, none⟩) (Kd.R_far (p := ⟨gb114, 1, none⟩) (Kd.R_far (p := ⟨gb114, 0, none⟩) (Kd.R_mono HO_6.out (fun k_ hk => (⟨hk, hk.2⟩ : _ ∧ k_ ≠ gb114))) (fun _ hk => hk.2) (.int .i64 ((rd_T77 l1 x13_1).f0))) (fun _ hk => hk.2) (.int .i64 ((rd_T77 l1 x13_1).f1))) (fun _ hk => hk.2) (.int .i64 ((rd_T77 l1 x13_1).f2))) (fun _ hk => hk.2) (.int .i64 ((rd_T77 l1 x13_1).f3))) (fun _ h_ => h_.1))) hb); replace BK112 := Aside0.mk (blk_below (g := gb112) (o := .cells #[.int .i64 a0_0, .int .i64 a0_1] 79 (0, 0)) (by (with_reducible repeat (first | refine blk_drewN ?_ _ | refine blk_drew ?_ | refine blk_alloc ?_ _)); refine blk_far ?_ NB112_114.out _; (with_reducible repeat (first | refine blk_drewN ?_ _ | refine blk_drew ?_ | refine blk_alloc ?_ _)); refine blk_far ?_ NB112_114.out _; (with_reducible repeat (first | refine blk_drewN ?_ _ | refine blk_drew ?_ | refine blk_alloc ?_ _)); refine blk_far ?_ NB112_114.out _; (with_reducible repeat (first | refine blk_drewN ?_ _ | refine blk_drew ?_ | refine blk_alloc ?_ _)); refine blk_far ?_ NB112_114.out _; (with_reducible repeat (first | refine blk_drewN ?_ _ | refine blk_drew ?_ | refine blk_alloc ?_ _)); exact BK112.out) hb); replace BK114 := Aside0.mk (blk_below (g := gb114) (o := .cells #[.int .i64 ((rd_T77 l1 x13_1).f0), .int .i64 ((rd_T77 l1 x13_1).f1), .int .i64 ((rd_T77 l1 x13_1).f2), .int .i64 ((rd_T77 l1 x13_1).f3)] 77 (0, 0)) (by (with_reducible repeat (first | refine blk_drewN ?_ _ | refine blk_drew ?_ | refine blk_alloc ?_ _)); refine blk_put (cs := #[.int .i64 ((rd_T77 l1 x13_1).f0), .int .i64 ((rd_T77 l1 x13_1).f1), .int .i64 ((rd_T77 l1 x13_1).f2), .int .i64 0]) ?_ 3 _ rfl; (with_reducible repeat (first | refine blk_drewN ?_ _ | refine blk_drew ?_ | refine blk_alloc ?_ _)); refine blk_put (cs := #[.int .i64 ((rd_T77 l1 x13_1).f0), .int .i64 ((rd_T77 l1 x13_1).f1), .int .i64 0, .int .i64 0]) ?_ 2 _ rfl; (with_reducible repeat (first | refine blk_drewN ?_ _ | refine blk_drew ?_ | refine blk_alloc ?_ _)); refine blk_put (cs := #[.int .i64 ((rd_T77 l1 x13_1).f0), .int .i64 0, .int .i64 0, .int .i64 0]) ?_ 1 _ rfl; (with_reducible repeat (first | refine blk_drewN ?_ _ | refine blk_drew ?_ | refine blk_alloc ?_ _)); refine blk_put (cs := #[.int .i64 0, .int .i64 0, .int .i64 0, .int .i64 0]) ?_ 0 _ rfl; (with_reducible repeat (first | refine blk_drewN ?_ _ | refine blk_drew ?_ | refine blk_alloc ?_ _)); exact BK114.out) hb); replace HB := bp hb; clear hb; obtain ⟨hcz18_0, hcz18_1, hcz18_2, hcz18_3, hfz18_0, hfz18_1, hfz18_2, hfz18_3⟩ := xc4 BK114; obtain ⟨Ao19, co19, eo19⟩ := Kd.R_slice HO_6.out; subst eo19))
       go_loopg [] k1 (fun kq w' => ∃ (x6_2 : List (S77)) (x115000_2 : Int), Aside0 (edit_clocks_normal.l1 kq x6_2 (wrap64 (x7_1 + t115)) (x6_1.length : Int) l1 (l1.length : Int) x13_1 a0_0 a0_1 x115000_2 t116 t117 t118 = some (r1, r2)) ∧ Aside0 (kq ≤ k1) ∧ Aside0 (Kd.R k77 77 w' w.heap.size (fun k_ => k_ ≠ gb114) (.slice Ao19 x6_1.length co19) x6_2) ∧ Aside0 (w'.heap[gb112]? = some (.cells #[.int .i64 a0_0, .int .i64 a0_1] 79 (0, 0))) ∧ Aside0 (w'.heap[gb114]? = some (.cells #[.int .i64 x115000_2, .int .i64 t116, .int .i64 t117, .int .i64 t118] 77 (0, 0))) ∧ Aside0 (Below w.heap.size w w'))
       case atStart => exact ⟨(x6_1), (t115), H', ⟨Nat.le_refl _⟩, ⟨by (with_reducible repeat (first | apply Kd.R_alloc | apply Kd.R_drewN | apply Kd.R_drew)); exact Kd.R_mono (Kd.R_far (p := ⟨gb114, 3, none⟩) (Kd.R_far (p := ⟨gb114, 2, none⟩) (Kd.R_far (p := ⟨gb114, 1, none⟩) (Kd.R_far (p := ⟨gb114, 0, none⟩) (Kd.R_mono HO_6.out (fun k_ hk => (⟨hk, hk.2⟩ : _ ∧ k_ ≠ gb114))) (fun _ hk => hk.2) (.int .i64 t115)) (fun _ hk => hk.2) (.int .i64 t116)) (fun _ hk => hk.2) (.int .i64 t117)) (fun _ hk => hk.2) (.int .i64 t118)) (fun _ hk => hk.1.2)⟩, ⟨by (with_reducible repeat (first | refine blk_drewN ?_ _ | refine blk_drew ?_ | refine blk_alloc ?_ _)); refine blk_far ?_ NB112_114.out _; (with_reducible repeat (first | refine blk_drewN ?_ _ | refine blk_drew ?_ | refine blk_alloc ?_ _)); refine blk_far ?_ NB112_114.out _; (with_reducible repeat (first | refine blk_drewN ?_ _ | refine blk_drew ?_ | refine blk_alloc ?_ _)); refine blk_far ?_ NB112_114.out _; (with_reducible repeat (first | refine blk_drewN ?_ _ | refine blk_drew ?_ | refine blk_alloc ?_ _)); refine blk_far ?_ NB112_114.out _; (with_reducible repeat (first | refine blk_drewN ?_ _ | refine blk_drew ?_ | refine blk_alloc ?_ _)); exact BK112.out⟩, ⟨by (with_reducible repeat (first | refine blk_drewN ?_ _ | refine blk_drew ?_ | refine blk_alloc ?_ _)); refine blk_put (cs := #[.int .i64 t115, .int .i64 t116, .int .i64 t117, .int .i64 ((rd_T77 l1 x13_1).f3)]) ?_ 3 _ rfl; (with_reducible repeat (first | refine blk_drewN ?_ _ | refine blk_drew ?_ | refine blk_alloc ?_ _)); refine blk_put (cs := #[.int .i64 t115, .int .i64 t116, .int .i64 ((rd_T77 l1 x13_1).f2), .int .i64 ((rd_T77 l1 x13_1).f3)]) ?_ 2 _ rfl; (with_reducible repeat (first | refine blk_drewN ?_ _ | refine blk_drew ?_ | refine blk_alloc ?_ _)); refine blk_put (cs := #[.int .i64 t115, .int .i64 ((rd_T77 l1 x13_1).f1), .int .i64 ((rd_T77 l1 x13_1).f2), .int .i64 ((rd_T77 l1 x13_1).f3)]) ?_ 1 _ rfl; (with_reducible repeat (first | refine blk_drewN ?_ _ | refine blk_drew ?_ | refine blk_alloc ?_ _)); refine blk_put (cs := #[.int .i64 ((rd_T77 l1 x13_1).f0), .int .i64 ((rd_T77 l1 x13_1).f1), .int .i64 ((rd_T77 l1 x13_1).f2), .int .i64 ((rd_T77 l1 x13_1).f3)]) ?_ 0 _ rfl; (with_reducible repeat (first | refine blk_drewN ?_ _ | refine blk_drew ?_ | refine blk_alloc ?_ _)); exact BK114.out⟩, ⟨bz⟩⟩
       case round =>
        clear H'
        try clear c1
        try clear p1
        try clear q1
        try clear hx1
        try clear p2
        try clear c4
        try clear c4b0
        try clear c5
        try clear c5b0
        try clear c6
        try clear c6b0
        try clear p6
        try clear c7
        try clear c8
        try clear c8b0
        try clear c10
        try clear p11
        try clear q11
        try clear hx11
        try clear c15
        try clear hcz11_0
        try clear hcz11_1
        try clear hcz11_2
        try clear hcz11_3
        try clear hcz13_0
        try clear hcz13_1
        try clear hcz13_2
        try clear hcz13_3
        try clear hcz16_0
        try clear hcz16_1
        try clear hcz16_2
        try clear hcz16_3
        try clear hcz18_0
        try clear hcz18_1
        try clear hcz18_2
        try clear hcz18_3
        try clear hfz11_0
        try clear hfz11_1
        try clear hfz11_2
        try clear hfz11_3
        try clear hfz13_0
        try clear hfz13_1
        try clear hfz13_2
        try clear hfz13_3
        try clear hfz16_0
        try clear hfz16_1
        try clear hfz16_2
        try clear hfz16_3
        try clear hfz18_0
        try clear hfz18_1
        try clear hfz18_2
        try clear hfz18_3
        try clear hx113_0
        try clear hx113_1
        try clear hx113_2
        try clear hx113_3
        try clear p113
        try clear p2
        try clear q113
        obtain ⟨x6_2, x115000_2, HA, HK2, HO_6, BK112, BK114, HB⟩ := hrel; have hl6_2 := (Kd.R_reads' HO_6.out).1; rw [hl6_2] at HO_6
        (try simp only [hl6_2])
        (try simp only [hl6_2] at BK112)
        (try simp only [hl6_2] at BK114)
        cases gk with
        | zero => exact absurd HA.out (by simp [edit_clocks_normal.l1])
        | succ k2 =>
         have H := HA.out; clear HA; simp only [edit_clocks_normal.l1] at H
         (try simp only [hl6_2] at H)
         by_cases c20 : (x6_2.length : Int) > 0
         ·rw [if_pos c20] at H; have c20b0 : decide (0 < (x6_2.length : Int)) = true := decide_eq_true c20; have c20b1 : decide (0 < x6_2.length) = true := decide_eq_true (by omega); clear c20; obtain ⟨ji21, hji21⟩ : ∃ j_ : Int, (wrap64 ((x6_2.length : Int) - 1)) = j_ := ⟨_, rfl⟩; replace H : (if 0 ≤ (ji21) then (if (ji21) < (x6_2.length : Int) then ((edit_clocks_over.f a0_0 a0_1 ((rd_T77 x6_2 (ji21)).f0) ((rd_T77 x6_2 (ji21)).f1) ((rd_T77 x6_2 (ji21)).f2) ((rd_T77 x6_2 (ji21)).f3) x115000_2 t116 t117 t118).bind fun t120 => (if t120 = true then (edit_clocks_normal.l0 k2 (x6_2.set ((ji21) : Int).toNat (⟨wrap64 (((rd_T77 x6_2 (ji21)).f0) + x115000_2), (rd_T77 x6_2 (ji21)).f1, (rd_T77 x6_2 (ji21)).f2, (rd_T77 x6_2 (ji21)).f3⟩ : S77)) (wrap64 (x7_1 + t115)) l1 (l1.length : Int) (wrap64 (x13_1 + 1)) a0_0 a0_1) else (if x6_2.length < 4398046511104 then (edit_clocks_normal.l0 k2 (x6_2 ++ [(⟨x115000_2, t116, t117, t118⟩ : S77)]) (wrap64 (x7_1 + t115)) l1 (l1.length : Int) (wrap64 (x13_1 + 1)) a0_0 a0_1) else (none)))) else (none)) else (none)) = some (r1, r2) := by first | (rw [hji21] at H; exact H) | (simp only [hji21] at H ⊢; exact H)
          have hji21w : (IntKind.i64.wrap ((x6_2.length : Int) - 1)) = ji21 := (i64_w _).trans hji21
          by_cases c22 : 0 ≤ (ji21)
          ·rw [if_pos c22] at H; have c22b0 : decide (0 ≤ (ji21)) = true := decide_eq_true c22; clear c22
           by_cases c23 : (ji21) < (x6_2.length : Int)
           ·rw [if_pos c23] at H; have c23b0 : decide ((ji21) < (x6_2.length : Int)) = true := decide_eq_true c23; clear c23; obtain ⟨t120, A24, H⟩ := ob H
            by_cases c25 : t120 = true
            ·subst c25; rw [if_pos rfl] at H; obtain ⟨y122, hy122⟩ : ∃ y_ : List (S77), y_ = (x6_2.set ((ji21) : Int).toNat (⟨wrap64 (((rd_T77 x6_2 (ji21)).f0) + x115000_2), (rd_T77 x6_2 (ji21)).f1, (rd_T77 x6_2 (ji21)).f2, (rd_T77 x6_2 (ji21)).f3⟩ : S77)) := ⟨_, rfl⟩; replace H : (edit_clocks_normal.l0 k2 y122 (wrap64 (x7_1 + t115)) l1 (l1.length : Int) (wrap64 (x13_1 + 1)) a0_0 a0_1) = some (r1, r2) := by first | (rw [hy122]; with_reducible exact H) | (have H2_ := (Option.bind_some _ _).symm.trans H; rw [hy122]; with_reducible exact H2_) | (have H2_ := (Option.bind_some _ _).symm.trans H; with_reducible exact H2_) | with_reducible exact H | (rw [hy122]; exact H) | exact H
             have Ny122 := Aside0.mk hy122; clear hy122; have H' := Aside0.mk H; clear H
             try go_wp2
             replace HO_6 := Aside0.mk (Kd.R_drew HO_6.out); replace BK112 := Aside0.mk (blk_drew BK112.out); replace BK114 := Aside0.mk (blk_drew BK114.out); replace HB := Aside0.mk (below_drew1 HB.out); have p119 : 0 ≤ ((ji21) : Int) := od; have q119 : (ji21) < (x6_2.length : Int) := od; obtain ⟨ad119, e119, hx119_0, hx119_1, hx119_2, hx119_3⟩ := at_T77 (Kd.R_reads' HO_6.out).2.2 (ji21) p119 q119
             cases e119
             replace p119 := eq_true p119; replace q119 := eq_true q119; refine start_ (n := 12) (S := fun w' => w'.cell? ⟨gb112, 0, none⟩ = some (.int .i64 a0_0) ∧ w'.cell? ⟨gb112, 1, none⟩ = some (.int .i64 a0_1) ∧ w'.cell? ⟨gb114, 0, none⟩ = some (.int .i64 x115000_2) ∧ w'.cell? ⟨gb114, 1, none⟩ = some (.int .i64 t116) ∧ w'.cell? ⟨gb114, 2, none⟩ = some (.int .i64 t117) ∧ w'.cell? ⟨gb114, 3, none⟩ = some (.int .i64 t118) ∧ w'.cell? (ad119.add (((ji21)).toNat * 4)) = some (.int .i64 ((rd_T77 x6_2 (ji21)).f0)) ∧ w'.cell? ⟨(ad119.add (((ji21)).toNat * 4)).block, (ad119.add (((ji21)).toNat * 4)).off + 1, none⟩ = some (.int .i64 ((rd_T77 x6_2 (ji21)).f1)) ∧ w'.cell? ⟨(ad119.add (((ji21)).toNat * 4)).block, (ad119.add (((ji21)).toNat * 4)).off + 2, none⟩ = some (.int .i64 ((rd_T77 x6_2 (ji21)).f2)) ∧ w'.cell? ⟨(ad119.add (((ji21)).toNat * 4)).block, (ad119.add (((ji21)).toNat * 4)).off + 3, none⟩ = some (.int .i64 ((rd_T77 x6_2 (ji21)).f3))) (ds := []) (bs 12 0) (by kernel_rfl) rfl rfl ⟨ct BK112 0, ct BK112 1, ct BK114 0, ct BK114 1, ct BK114 2, ct BK114 3, hx119_0, hx119_1, hx119_2, hx119_3⟩ (fun hHeld => ?_)
             generalize wr.drew = w27 at HO_6 BK112 BK114 HB hx119_0 hx119_1 hx119_2 hx119_3 hHeld ⊢; refine zP 0 27 12 1 ?_; refine zP 1 28 12 3 ?_; refine zP 2 29 12 7 ?_; refine zP 4 31 12 23 ?_; refine zP 5 32 12 55 ?_; refine zP 6 33 12 119 ?_; refine zP 7 34 12 247 ?_; refine zT 3 30 12 255 hHeld ?_; refine zT 8 35 12 511 hHeld ?_; refine zT 9 36 12 1023 hHeld ?_; refine zN 10 (some 37) 12 2047 (fun K hK => ?_); refine goes_ Try.func113 (by kernel_rfl) rfl #[.agg #[.int .i64 a0_0, .int .i64 a0_1], .agg #[.int .i64 ((rd_T77 x6_2 (ji21)).f0), .int .i64 ((rd_T77 x6_2 (ji21)).f1), .int .i64 ((rd_T77 x6_2 (ji21)).f2), .int .i64 ((rd_T77 x6_2 (ji21)).f3)], .agg #[.int .i64 x115000_2, .int .i64 t116, .int .i64 t117, .int .i64 t118]] (by rfl) rfl rfl (by (try simp only [List.map_toArray, List.map_cons, List.map_nil]); first | done | (simp only [hji21]; rfl) | rfl | (simp only [List.length_drop, List.length_take]; rfl)) ?_
             with_reducible refine (edit_clocks_over.calls a0_0 a0_1 ((rd_T77 x6_2 (ji21)).f0) ((rd_T77 x6_2 (ji21)).f1) ((rd_T77 x6_2 (ji21)).f2) ((rd_T77 x6_2 (ji21)).f3) x115000_2 t116 t117 t118 true _ A24.out).mono ?_
             rintro e w28 ⟨rfl, hb⟩; have HS6_ := (hb.cell (World.block_lt_of_cell? _ _ (hHeld.2.2.2.2.2.2.1))).trans (hHeld.2.2.2.2.2.2.1); have HS7_ := (hb.cell (World.block_lt_of_cell? _ _ (hHeld.2.2.2.2.2.2.2.1))).trans (hHeld.2.2.2.2.2.2.2.1); have HS8_ := (hb.cell (World.block_lt_of_cell? _ _ (hHeld.2.2.2.2.2.2.2.2.1))).trans (hHeld.2.2.2.2.2.2.2.2.1); have HS9_ := (hb.cell (World.block_lt_of_cell? _ _ (hHeld.2.2.2.2.2.2.2.2.2))).trans (hHeld.2.2.2.2.2.2.2.2.2); refine ⟨_, rfl, ?_⟩; replace HO_6 := Aside0.mk (Kd.R_below (rz HO_6) hb); replace BK112 := kb BK112 hb; replace BK114 := kb BK114 hb; replace HB := bp hb; clear hb; refine hK.out _ _ ⟨ct BK112 0, ct BK112 1, ct BK114 0, ct BK114 1, ct BK114 2, ct BK114 3, HS6_, HS7_, HS8_, HS9_⟩ (fun hHeld => ?_); clear hK K; refine zM 37 ?_; refine zP 11 38 12 4095 ?_; refine done_ (by kernel_rfl) ?_
             try go_wp2
             replace HO_6 := Aside0.mk (Kd.R_drew HO_6.out); replace BK112 := Aside0.mk (blk_drew BK112.out); replace BK114 := Aside0.mk (blk_drew BK114.out); replace HB := Aside0.mk (below_drew1 HB.out); have p121 : 0 ≤ ((ji21) : Int) := od; have q121 : (ji21) < (x6_2.length : Int) := od; obtain ⟨ad121, e121, hx121_0, hx121_1, hx121_2, hx121_3⟩ := at_T77 (Kd.R_reads' HO_6.out).2.2 (ji21) p121 q121; obtain rfl : ad119 = ad121 := (by injection e121); replace p121 := eq_true p121; replace q121 := eq_true q121; have p26 : 0 ≤ ((ji21) : Int) := od; have q26 : ((ji21) : Int) < ((x6_2.length : Int) : Int) := od; obtain ⟨go26, co26, eo26, gb26, gl26, cl26, HG26⟩ := Kd.R_form HO_6.out (by omega)
             (first | cases eo26 | (injection eo26 with ea_ en_ ec_; (first | subst ea_ | (injection ea_ with ea_; subst ea_)); subst ec_; clear en_))
             have GB26 := Aside0.mk gb26; have GG26 := Aside0.mk HG26; clear gb26 gl26 HG26
             (first | simp only [add_plain] at hx119_0 | skip)
             (first | simp only [add_plain] at hx119_1 | skip)
             (first | simp only [add_plain] at hx119_2 | skip)
             (first | simp only [add_plain] at hx119_3 | skip)
             (first | simp only [add_plain] at hx121_0 | skip)
             (first | simp only [add_plain] at hx121_1 | skip)
             (first | simp only [add_plain] at hx121_2 | skip)
             (first | simp only [add_plain] at hx121_3 | skip)
             obtain ⟨ce26, hcl26, hM26, hcc26, hfr26⟩ := Kd.R_elem HO_6.out z77 ((ji21) : Int) p26 q26; obtain rfl := k77_openM hM26; have hx26_0 : World.cell? _ ⟨go26, ((ji21) : Int).toNat * 4, none⟩ = some (.int .i64 ((rd_T77 x6_2 (ji21)).f0)) := hcc26 0 _ rfl; have hx26_1 : World.cell? _ ⟨go26, ((ji21) : Int).toNat * 4 + 1, none⟩ = some (.int .i64 ((rd_T77 x6_2 (ji21)).f1)) := hcc26 1 _ rfl; have hx26_2 : World.cell? _ ⟨go26, ((ji21) : Int).toNat * 4 + 2, none⟩ = some (.int .i64 ((rd_T77 x6_2 (ji21)).f2)) := hcc26 2 _ rfl; have hx26_3 : World.cell? _ ⟨go26, ((ji21) : Int).toNat * 4 + 3, none⟩ = some (.int .i64 ((rd_T77 x6_2 (ji21)).f3)) := hcc26 3 _ rfl; have hf26_0 : World.frozen? _ ⟨go26, ((ji21) : Int).toNat * 4, none⟩ = false := hfr26 0; have hf26_1 : World.frozen? _ ⟨go26, ((ji21) : Int).toNat * 4 + 1, none⟩ = false := hfr26 1; have hf26_2 : World.frozen? _ ⟨go26, ((ji21) : Int).toNat * 4 + 2, none⟩ = false := hfr26 2; have hf26_3 : World.frozen? _ ⟨go26, ((ji21) : Int).toNat * 4 + 3, none⟩ = false := hfr26 3; clear hcl26 hcc26 hfr26 hM26; replace p26 := eq_true p26; replace q26 := eq_true q26; obtain ⟨ce30, hcl30, hM30, hcc30, hfr30⟩ := Kd.R_elem HO_6.out z77 ((ji21) : Int) (od) (by have h_ : ((ji21) : Int) < ((x6_2.length : Int) : Int) := od; first | exact h_ | (have e_ := (Kd.R_reads' HO_6.out).1; omega) | simpa using h_); obtain rfl := k77_openM hM30; have HP30 := (Kd.R_seg HO_6.out ((ji21) : Int) (od) (by have h_ : ((ji21) : Int) < ((x6_2.length : Int) : Int) := od; first | exact h_ | (have e_ := (Kd.R_reads' HO_6.out).1; omega) | simpa using h_) (seg := [.int .i64 (wrap64 (((rd_T77 x6_2 (ji21)).f0) + x115000_2))]) (j := 0) hcl30 hcc30 (show 1 ≤ 4 from by decide) (x' := (⟨wrap64 (((rd_T77 x6_2 (ji21)).f0) + x115000_2), (rd_T77 x6_2 (ji21)).f1, (rd_T77 x6_2 (ji21)).f2, (rd_T77 x6_2 (ji21)).f3⟩ : S77)) (k77_mkM _ _ _ (⟨wrap64 (((rd_T77 x6_2 (ji21)).f0) + x115000_2), (rd_T77 x6_2 (ji21)).f1, (rd_T77 x6_2 (ji21)).f2, (rd_T77 x6_2 (ji21)).f3⟩ : S77) ) (fun _ hk => hk)).1; rw [← Ny122.out] at HP30; have HQ30 := Aside0.mk HP30; clear hcl30 hcc30 hfr30 hM30 HP30; refine start_ (n := 12) (S := fun w' => w'.cell? ⟨gb114, 0, none⟩ = some (.int .i64 x115000_2) ∧ w'.cell? ⟨gb114, 1, none⟩ = some (.int .i64 t116) ∧ w'.cell? ⟨gb114, 2, none⟩ = some (.int .i64 t117) ∧ w'.cell? ⟨gb114, 3, none⟩ = some (.int .i64 t118) ∧ w'.cell? ⟨go26, (((ji21)) : Int).toNat * 4, none⟩ = some (.int .i64 ((rd_T77 x6_2 (ji21)).f0)) ∧ w'.cell? ⟨go26, (((ji21)) : Int).toNat * 4 + 1, none⟩ = some (.int .i64 ((rd_T77 x6_2 (ji21)).f1)) ∧ w'.cell? ⟨go26, (((ji21)) : Int).toNat * 4 + 2, none⟩ = some (.int .i64 ((rd_T77 x6_2 (ji21)).f2)) ∧ w'.cell? ⟨go26, (((ji21)) : Int).toNat * 4 + 3, none⟩ = some (.int .i64 ((rd_T77 x6_2 (ji21)).f3))) (ds := [11]) (bs 12 0) (by kernel_rfl) rfl rfl ⟨ct BK114 0, ct BK114 1, ct BK114 2, ct BK114 3, hx121_0, hx121_1, hx121_2, hx121_3⟩ (fun hHeld => ?_)
             generalize w28.drew = w29 at HO_6 BK112 BK114 HB GG26 HQ30 hf26_0 hf26_1 hf26_2 hf26_3 hx119_0 hx119_1 hx119_2 hx119_3 hx121_0 hx121_1 hx121_2 hx121_3 hx26_0 hx26_1 hx26_2 hx26_3 hHeld ⊢; refine zP 0 39 12 1 ?_; refine zP 1 40 12 3 ?_; refine zP 2 41 12 7 ?_; refine zP 3 42 12 15 ?_; refine zP 4 43 12 31 ?_; refine zP 6 45 12 95 ?_; refine zT 5 44 12 127 hHeld ?_; refine zT 7 46 12 255 hHeld ?_; refine zP 8 47 12 511 ?_; refine zP 9 48 12 1023 ?_; refine zP 10 49 12 2047 ?_; refine zL 11 none 12 4095 (fun K hK => ?_); refine skip_ (w1 := ?_) (by rfl) rfl ?_ ?_
             rotate_left
             ·go_simp
              rfl
             refine hK.out _ _ ?_; clear hK K; refine done_ (by kernel_rfl) ?_
             try go_wp2
             (try simp only [← hl6_2])
             go_roundg k2
             case measure => have := HK1.out; have := HK2.out; omega
             case rel => exact ⟨(y122), ((wrap64 (x7_1 + t115))), (wrap64 (x13_1 + 1)), jz, jz, H', ⟨by have := HK1.out; have := HK2.out; omega⟩, ⟨by (try simp only [hl6_2]); (with_reducible repeat (first | apply Kd.R_alloc | apply Kd.R_drewN | apply Kd.R_drew)); exact Kd.R_mono HQ30.out (fun _ hk => trivial)⟩, ⟨by (try simp only [hl6_2]); (with_reducible repeat (first | refine blk_drewN ?_ _ | refine blk_drew ?_ | refine blk_alloc ?_ _)); refine blk_far ?_ (by have h_ := Kd.R_ne HO_6.out BK112.out (by decide); intro e_; exact h_ (by rw [e_]; rfl)) _; (with_reducible repeat (first | refine blk_drewN ?_ _ | refine blk_drew ?_ | refine blk_alloc ?_ _)); exact BK112.out⟩, ⟨by repeat (first | (with_reducible first | exact HB.out | apply below_alloc | apply pw_below_drewN | apply below_drew1 | refine below_set ?_ GB26.out | refine below_set ?_ GE112.out | refine below_set ?_ GE114.out) | exact HB.out)⟩⟩
            ·obtain rfl := bf c25; rw [if_neg (show ¬ (false = true) by decide)] at H
             by_cases c31 : x6_2.length < 4398046511104
             ·rw [if_pos c31] at H; have LMc31 := Aside0.mk c31; clear c31; obtain ⟨y123, hy123⟩ : ∃ y_ : List (S77), y_ = (x6_2 ++ [(⟨x115000_2, t116, t117, t118⟩ : S77)]) := ⟨_, rfl⟩; replace H : (edit_clocks_normal.l0 k2 y123 (wrap64 (x7_1 + t115)) l1 (l1.length : Int) (wrap64 (x13_1 + 1)) a0_0 a0_1) = some (r1, r2) := by first | (rw [hy123]; with_reducible exact H) | (have H2_ := (Option.bind_some _ _).symm.trans H; rw [hy123]; with_reducible exact H2_) | (have H2_ := (Option.bind_some _ _).symm.trans H; with_reducible exact H2_) | with_reducible exact H | (rw [hy123]; exact H) | exact H
              have Ny123 := Aside0.mk hy123; clear hy123; have H' := Aside0.mk H; clear H
              try go_wp2
              replace HO_6 := Aside0.mk (Kd.R_drew HO_6.out); replace BK112 := Aside0.mk (blk_drew BK112.out); replace BK114 := Aside0.mk (blk_drew BK114.out); replace HB := Aside0.mk (below_drew1 HB.out); have p119 : 0 ≤ ((ji21) : Int) := od; have q119 : (ji21) < (x6_2.length : Int) := od; obtain ⟨ad119, e119, hx119_0, hx119_1, hx119_2, hx119_3⟩ := at_T77 (Kd.R_reads' HO_6.out).2.2 (ji21) p119 q119
              cases e119
              replace p119 := eq_true p119; replace q119 := eq_true q119; refine start_ (n := 12) (S := fun w' => w'.cell? ⟨gb112, 0, none⟩ = some (.int .i64 a0_0) ∧ w'.cell? ⟨gb112, 1, none⟩ = some (.int .i64 a0_1) ∧ w'.cell? ⟨gb114, 0, none⟩ = some (.int .i64 x115000_2) ∧ w'.cell? ⟨gb114, 1, none⟩ = some (.int .i64 t116) ∧ w'.cell? ⟨gb114, 2, none⟩ = some (.int .i64 t117) ∧ w'.cell? ⟨gb114, 3, none⟩ = some (.int .i64 t118) ∧ w'.cell? (ad119.add (((ji21)).toNat * 4)) = some (.int .i64 ((rd_T77 x6_2 (ji21)).f0)) ∧ w'.cell? ⟨(ad119.add (((ji21)).toNat * 4)).block, (ad119.add (((ji21)).toNat * 4)).off + 1, none⟩ = some (.int .i64 ((rd_T77 x6_2 (ji21)).f1)) ∧ w'.cell? ⟨(ad119.add (((ji21)).toNat * 4)).block, (ad119.add (((ji21)).toNat * 4)).off + 2, none⟩ = some (.int .i64 ((rd_T77 x6_2 (ji21)).f2)) ∧ w'.cell? ⟨(ad119.add (((ji21)).toNat * 4)).block, (ad119.add (((ji21)).toNat * 4)).off + 3, none⟩ = some (.int .i64 ((rd_T77 x6_2 (ji21)).f3))) (ds := []) (bs 12 0) (by kernel_rfl) rfl rfl ⟨ct BK112 0, ct BK112 1, ct BK114 0, ct BK114 1, ct BK114 2, ct BK114 3, hx119_0, hx119_1, hx119_2, hx119_3⟩ (fun hHeld => ?_)
              generalize wr.drew = w32 at HO_6 BK112 BK114 HB hx119_0 hx119_1 hx119_2 hx119_3 hHeld ⊢; refine zP 0 27 12 1 ?_; refine zP 1 28 12 3 ?_; refine zP 2 29 12 7 ?_; refine zP 4 31 12 23 ?_; refine zP 5 32 12 55 ?_; refine zP 6 33 12 119 ?_; refine zP 7 34 12 247 ?_; refine zT 3 30 12 255 hHeld ?_; refine zT 8 35 12 511 hHeld ?_; refine zT 9 36 12 1023 hHeld ?_; refine zN 10 (some 37) 12 2047 (fun K hK => ?_); refine goes_ Try.func113 (by kernel_rfl) rfl #[.agg #[.int .i64 a0_0, .int .i64 a0_1], .agg #[.int .i64 ((rd_T77 x6_2 (ji21)).f0), .int .i64 ((rd_T77 x6_2 (ji21)).f1), .int .i64 ((rd_T77 x6_2 (ji21)).f2), .int .i64 ((rd_T77 x6_2 (ji21)).f3)], .agg #[.int .i64 x115000_2, .int .i64 t116, .int .i64 t117, .int .i64 t118]] (by rfl) rfl rfl (by (try simp only [List.map_toArray, List.map_cons, List.map_nil]); first | done | (simp only [hji21]; rfl) | rfl | (simp only [List.length_drop, List.length_take]; rfl)) ?_
              with_reducible refine (edit_clocks_over.calls a0_0 a0_1 ((rd_T77 x6_2 (ji21)).f0) ((rd_T77 x6_2 (ji21)).f1) ((rd_T77 x6_2 (ji21)).f2) ((rd_T77 x6_2 (ji21)).f3) x115000_2 t116 t117 t118 false _ A24.out).mono ?_
              rintro e w33 ⟨rfl, hb⟩; have HS6_ := (hb.cell (World.block_lt_of_cell? _ _ (hHeld.2.2.2.2.2.2.1))).trans (hHeld.2.2.2.2.2.2.1); have HS7_ := (hb.cell (World.block_lt_of_cell? _ _ (hHeld.2.2.2.2.2.2.2.1))).trans (hHeld.2.2.2.2.2.2.2.1); have HS8_ := (hb.cell (World.block_lt_of_cell? _ _ (hHeld.2.2.2.2.2.2.2.2.1))).trans (hHeld.2.2.2.2.2.2.2.2.1); have HS9_ := (hb.cell (World.block_lt_of_cell? _ _ (hHeld.2.2.2.2.2.2.2.2.2))).trans (hHeld.2.2.2.2.2.2.2.2.2); refine ⟨_, rfl, ?_⟩; replace HO_6 := Aside0.mk (Kd.R_below (rz HO_6) hb); replace BK112 := kb BK112 hb; replace BK114 := kb BK114 hb; replace HB := bp hb; clear hb; refine hK.out _ _ ⟨ct BK112 0, ct BK112 1, ct BK114 0, ct BK114 1, ct BK114 2, ct BK114 3, HS6_, HS7_, HS8_, HS9_⟩ (fun hHeld => ?_); clear hK K; refine zM 37 ?_; refine zP 11 38 12 4095 ?_; refine done_ (by kernel_rfl) ?_; have hnb34 := NB114_112.out; have hnc34 := NB112_114.out; obtain ⟨hcz35_0, hcz35_1, hcz35_2, hcz35_3, hfz35_0, hfz35_1, hfz35_2, hfz35_3⟩ := xc4 BK114
              try go_wp2_with (first | ((with_reducible refine gate_builtin (b := .append) (xs := #[.tmp 50, .tmp 52]) rfl ?_); at_builtin; refine Kd.R_append k77 (w0 := w) w.heap.size rfl (.tmp 50) (.tmp 52) 22 77 (.agg #[(.int .i64 0), (.int .i64 0), (.int .i64 0), (.int .i64 0)]) 32 rfl Try.underlying22 info77 rfl (by decide) (by omega) (.slice (some ad119) x6_2.length co19) x6_2 (⟨x115000_2, t116, t117, t118⟩ : S77) [.int .i64 x115000_2, .int .i64 t116, .int .i64 t117, .int .i64 t118] (fun k_ => k_ ≠ gb114) (fun _ => False) rfl rfl ?aP (fun _ hk => hk.elim) ?aF ?aO ?aB ?aS ?aL ?_; (case aP => exact k77_mkM _ _ _ (⟨x115000_2, t116, t117, t118⟩ : S77)); (case aB => exact bz); (case aF => exact (fun k_ hk => Kd.freshB (g := gb114) (o := .cells #[.int .i64 x115000_2, .int .i64 t116, .int .i64 t117, .int .i64 t118] 77 (0, 0)) kz k_ hk)); (case aO => exact (rz HO_6)); (case aS => exact sz); (case aL => have := LMc31.out; omega); intro v124 w36 ho hb hg hat; rw [← Ny123.out] at ho; have n0_ := Aside0.mk (blk_grown (g := gb112) (o := .cells #[.int .i64 a0_0, .int .i64 a0_1] 79 (0, 0)) kz hg (Kd.R_ne HO_6.out BK112.out (by decide))); have n1_ := Aside0.mk (blk_grown (g := gb114) (o := .cells #[.int .i64 x115000_2, .int .i64 t116, .int .i64 t117, .int .i64 t118] 77 (0, 0)) kz hg (Kd.R_away HO_6.out (fun _ hk => hk))); have n2_ := Aside0.mk (hb); have n3_ := Aside0.mk (ho); clear BK112; clear BK114; clear HB; clear HO_6; have BK112 := n0_; have BK114 := n1_; have HB := n2_; have HO125 := n3_; clear n0_ n1_ n2_ n3_; clear ho hb hg hat))
              (try simp only [← hl6_2])
              go_roundg k2
              case measure => have := HK1.out; have := HK2.out; omega
              case rel => exact ⟨(y123), ((wrap64 (x7_1 + t115))), (wrap64 (x13_1 + 1)), jz, jz, H', ⟨by have := HK1.out; have := HK2.out; omega⟩, ⟨by (try simp only [hl6_2]); (with_reducible repeat (first | apply Kd.R_alloc | apply Kd.R_drewN | apply Kd.R_drew)); exact Kd.R_mono HO125.out (fun _ hk => trivial)⟩, ⟨by (try simp only [hl6_2]); (with_reducible repeat (first | refine blk_drewN ?_ _ | refine blk_drew ?_ | refine blk_alloc ?_ _)); exact BK112.out⟩, ⟨bz⟩⟩
             ·rw [if_neg c31] at H
              exact absurd H (by simp)
           ·rw [if_neg c23] at H
            exact absurd H (by simp)
          ·rw [if_neg c22] at H
           exact absurd H (by simp)
         ·rw [if_neg c20] at H; have c20b0 : decide (0 < (x6_2.length : Int)) = false := decide_eq_false c20; have c20b1 : decide (0 < x6_2.length) = false := decide_eq_false (by omega); clear c20
          by_cases c37 : x6_2.length < 4398046511104
          ·rw [if_pos c37] at H; have LMc37 := Aside0.mk c37; clear c37; obtain ⟨y126, hy126⟩ : ∃ y_ : List (S77), y_ = (x6_2 ++ [(⟨x115000_2, t116, t117, t118⟩ : S77)]) := ⟨_, rfl⟩; replace H : (edit_clocks_normal.l0 k2 y126 (wrap64 (x7_1 + t115)) l1 (l1.length : Int) (wrap64 (x13_1 + 1)) a0_0 a0_1) = some (r1, r2) := by first | (rw [hy126]; with_reducible exact H) | (have H2_ := (Option.bind_some _ _).symm.trans H; rw [hy126]; with_reducible exact H2_) | (have H2_ := (Option.bind_some _ _).symm.trans H; with_reducible exact H2_) | with_reducible exact H | (rw [hy126]; exact H) | exact H
           have Ny126 := Aside0.mk hy126; clear hy126; have H' := Aside0.mk H; clear H
           try go_wp2
           replace HO_6 := Aside0.mk (Kd.R_drew HO_6.out); replace BK112 := Aside0.mk (blk_drew BK112.out); replace BK114 := Aside0.mk (blk_drew BK114.out); replace HB := Aside0.mk (below_drew1 HB.out); refine start_ (n := 12) (S := fun w' => True) (ds := []) (bs 12 0) (by kernel_rfl) rfl rfl trivial (fun hHeld => ?_); generalize wr.drew = w38 at HO_6 BK112 BK114 HB hHeld ⊢; refine zP 0 27 12 1 ?_; refine zP 1 28 12 3 ?_; refine zP 2 29 12 7 ?_; refine zO 3 30 12 15 ?_; refine zO 4 31 12 31 ?_; refine zO 5 32 12 63 ?_; refine zO 6 33 12 127 ?_; refine zO 7 34 12 255 ?_; refine zO 8 35 12 511 ?_; refine zO 9 36 12 1023 ?_; refine zO 10 37 12 2047 ?_; refine zP 11 38 12 4095 ?_; refine done_ (by kernel_rfl) ?_; have hnb39 := NB114_112.out; have hnc39 := NB112_114.out; obtain ⟨hcz40_0, hcz40_1, hcz40_2, hcz40_3, hfz40_0, hfz40_1, hfz40_2, hfz40_3⟩ := xc4 BK114
           try go_wp2_with (first | ((with_reducible refine gate_builtin (b := .append) (xs := #[.tmp 50, .tmp 52]) rfl ?_); at_builtin; refine Kd.R_append k77 (w0 := w) w.heap.size rfl (.tmp 50) (.tmp 52) 22 77 (.agg #[(.int .i64 0), (.int .i64 0), (.int .i64 0), (.int .i64 0)]) 32 rfl Try.underlying22 info77 rfl (by decide) (by omega) (.slice Ao19 x6_2.length co19) x6_2 (⟨x115000_2, t116, t117, t118⟩ : S77) [.int .i64 x115000_2, .int .i64 t116, .int .i64 t117, .int .i64 t118] (fun k_ => k_ ≠ gb114) (fun _ => False) rfl rfl ?aP (fun _ hk => hk.elim) ?aF ?aO ?aB ?aS ?aL ?_; (case aP => exact k77_mkM _ _ _ (⟨x115000_2, t116, t117, t118⟩ : S77)); (case aB => exact bz); (case aF => exact (fun k_ hk => Kd.freshB (g := gb114) (o := .cells #[.int .i64 x115000_2, .int .i64 t116, .int .i64 t117, .int .i64 t118] 77 (0, 0)) kz k_ hk)); (case aO => exact (rz HO_6)); (case aS => exact sz); (case aL => have := LMc37.out; omega); intro v127 w41 ho hb hg hat; rw [← Ny126.out] at ho; have n0_ := Aside0.mk (blk_grown (g := gb112) (o := .cells #[.int .i64 a0_0, .int .i64 a0_1] 79 (0, 0)) kz hg (Kd.R_ne HO_6.out BK112.out (by decide))); have n1_ := Aside0.mk (blk_grown (g := gb114) (o := .cells #[.int .i64 x115000_2, .int .i64 t116, .int .i64 t117, .int .i64 t118] 77 (0, 0)) kz hg (Kd.R_away HO_6.out (fun _ hk => hk))); have n2_ := Aside0.mk (hb); have n3_ := Aside0.mk (ho); clear BK112; clear BK114; clear HB; clear HO_6; have BK112 := n0_; have BK114 := n1_; have HB := n2_; have HO128 := n3_; clear n0_ n1_ n2_ n3_; clear ho hb hg hat))
           (try simp only [← hl6_2])
           go_roundg k2
           case measure => have := HK1.out; have := HK2.out; omega
           case rel => exact ⟨(y126), ((wrap64 (x7_1 + t115))), (wrap64 (x13_1 + 1)), jz, jz, H', ⟨by have := HK1.out; have := HK2.out; omega⟩, ⟨by (try simp only [hl6_2]); (with_reducible repeat (first | apply Kd.R_alloc | apply Kd.R_drewN | apply Kd.R_drew)); exact Kd.R_mono HO128.out (fun _ hk => trivial)⟩, ⟨by (try simp only [hl6_2]); (with_reducible repeat (first | refine blk_drewN ?_ _ | refine blk_drew ?_ | refine blk_alloc ?_ _)); exact BK112.out⟩, ⟨bz⟩⟩
          ·rw [if_neg c37] at H
           exact absurd H (by simp)
     ·rw [if_neg c6] at H
      exact absurd H (by simp)
    ·rw [if_neg c5] at H
     exact absurd H (by simp)
   ·rw [if_neg c4] at H; have c4b0 : decide (x13_1 < (l1.length : Int)) = false := decide_eq_false c4; clear c4
    by_cases c42 : (x6_1.length : Int) > 20
    ·rw [if_pos c42] at H; have c42b0 : decide (20 < (x6_1.length : Int)) = true := decide_eq_true c42; have c42b1 : decide (20 < x6_1.length) = true := decide_eq_true (by omega); clear c42; simp only [Option.some.injEq, Prod.mk.injEq] at H; obtain ⟨rfl, rfl⟩ := H; obtain ⟨Ao43, co43, eo43⟩ := Kd.R_slice HO_6.out; subst eo43
     go_wp2
     (try rw [Exit.noGoto_ret])
     go_ret2
     exact ⟨_, ez, by first | exact Kd.R_nil _ _ _ _ _ | exact Kd.N_nil _ _ _ _ _ | exact Kd.V_nil _ _ _ _ _ | exact Kd.Q_nil _ _ _ _ _ | exact Kd.S_nil _ _ _ _ _, bz⟩
    ·rw [if_neg c42] at H; have c42b0 : decide (20 < (x6_1.length : Int)) = false := decide_eq_false c42; have c42b1 : decide (20 < x6_1.length) = false := decide_eq_false (by omega); clear c42; simp only [Option.some.injEq, Prod.mk.injEq] at H; obtain ⟨rfl, rfl⟩ := H; obtain ⟨Ao44, co44, eo44⟩ := Kd.R_slice HO_6.out; subst eo44
     go_wp2
     (try rw [Exit.noGoto_ret])
     go_ret2
     exact ⟨_, ez, by (with_reducible repeat (first | apply Kd.R_alloc | apply Kd.R_drewN | apply Kd.R_drew)); exact HO_6.out, bz⟩
def edit_Normal.f (k : Nat) (l0 : List (S77)) (a1 : Int) (a2 : Int) : Option ((List (S77)) × Int) := (edit_Check.f k l0 a1 a2).bind fun t129 => (if t129 = 0 then ((edit_clocks_normal.f k a1 a2 l0).bind fun bt130 => (some (bt130.1, bt130.2))) else (some (([] : List (S77)), t129)))
set_option maxHeartbeats 8000000 in
set_option maxRecDepth 100000 in
theorem edit_Normal.calls (k : Nat) (A0 : Option Addr) (c0 : Nat) (l0 : List (S77)) (a1 : Int) (a2 : Int) (r1 : List (S77)) (r2 : Int) (w : World) (hr0 : Kd.C k77 w A0 l0.length l0) (hc0 : l0.length ≤ c0) (h : edit_Normal.f k l0 a1 a2 = some (r1, r2)) :
  Calls Try.prog 21 #[.slice A0 l0.length c0, .int .i64 a1, .int .i64 a2] w fun e w' => ∃ v0_ : Value, e = .returned (.tuple #[v0_, .int .i64 r2]) ∧ Kd.R k77 77 w' w.heap.size (fun _ => True) v0_ r1 ∧ Below w.heap.size w w' := by
 have hu79 := Try.underlying79; have HR0 := Aside0.mk hr0; have HC0 := Aside0.mk hc0; clear hr0 hc0; have HB := Aside0.mk (Below.refl w.heap.size w); have H : ((edit_Check.f k l0 a1 a2).bind fun t129 => (if t129 = 0 then ((edit_clocks_normal.f k a1 a2 l0).bind fun bt130 => (some (bt130.1, bt130.2))) else (some (([] : List (S77)), t129)))) = some (r1, r2) := h
 clear h; obtain ⟨t129, A4, H⟩ := ob H
 by_cases c5 : t129 = 0
 ·rw [if_pos c5] at H; have c5b0 : (t129 == 0) = true := beq_iff_eq.mpr c5; have c5b1 : (t129 != 0) = false := bne_eq_false_iff_eq.mpr c5; clear c5; obtain ⟨⟨t130, t133⟩, A6, H⟩ := ob H
  (try dsimp only at H)
  simp only [Option.some.injEq, Prod.mk.injEq] at H; obtain ⟨rfl, rfl⟩ := H
  go_enter Try.func21, Try.ntmps21
  go_wp2_with (first | ((with_reducible refine gate_callee (f := 24) rfl ?_); refine zC 12 Try.func24 #[.slice A0 l0.length c0, .int .i64 a1, .int .i64 a2] ?_; (with_reducible refine (edit_Check.calls k _ _ l0 a1 a2 t129 _ ?side1 ?side2 A4.out).mono ?_); (case side1 => repeat (first | exact HR0.out | (with_reducible refine Kd.C_alloc ?_ _) | (with_reducible refine Kd.C_drewN ?_ _) | (with_reducible refine Kd.C_drew ?_))); (case side2 => exact HC0.out); rintro e w7 ⟨rfl, hb⟩; refine ⟨_, rfl, ?_⟩; replace HB := bp hb; clear hb) | ((with_reducible refine gate_callee (f := 57) rfl ?_); refine zC 20 Try.func57 #[.agg #[.int .i64 a1, .int .i64 a2], .slice A0 l0.length c0] ?_; (with_reducible refine (edit_clocks_normal.calls k a1 a2 _ _ l0 t130 t133 _ ?side1 ?side2 A6.out).mono ?_); (case side1 => exact cz HR0); (case side2 => exact HC0.out); rintro e w8 ⟨v131, rfl, ho0, hb⟩; refine ⟨_, rfl, ?_⟩; have HO132 := Aside0.mk (Kd.R_lower ho0 sz); replace HB := bp hb; clear hb ho0))
  go_ret2
  exact ⟨_, ez, by (with_reducible repeat (first | apply Kd.R_alloc | apply Kd.R_drewN | apply Kd.R_drew)); exact HO132.out, bz⟩
 ·rw [if_neg c5] at H; have c5b0 : (t129 == 0) = false := beq_eq_false_iff_ne.mpr c5; have c5b1 : (t129 != 0) = true := bne_iff_ne.mpr c5; simp only [Option.some.injEq, Prod.mk.injEq] at H; obtain ⟨rfl, rfl⟩ := H
  go_enter Try.func21, Try.ntmps21
  go_wp2_with (first | ((with_reducible refine gate_callee (f := 24) rfl ?_); refine zC 12 Try.func24 #[.slice A0 l0.length c0, .int .i64 a1, .int .i64 a2] ?_; (with_reducible refine (edit_Check.calls k _ _ l0 a1 a2 t129 _ ?side1 ?side2 A4.out).mono ?_); (case side1 => repeat (first | exact HR0.out | (with_reducible refine Kd.C_alloc ?_ _) | (with_reducible refine Kd.C_drewN ?_ _) | (with_reducible refine Kd.C_drew ?_))); (case side2 => exact HC0.out); rintro e w9 ⟨rfl, hb⟩; refine ⟨_, rfl, ?_⟩; replace HB := bp hb; clear hb))
  go_ret2
  exact ⟨_, ez, by first | exact Kd.R_nil _ _ _ _ _ | exact Kd.N_nil _ _ _ _ _ | exact Kd.V_nil _ _ _ _ _ | exact Kd.Q_nil _ _ _ _ _ | exact Kd.S_nil _ _ _ _ _, bz⟩
end Go.Proofs.Ytpbhepdgamoiaaa.E
namespace Go.Proofs.Ytpbhepdgamoiaaa.E
open Go.Proofs.Ytpbhepdgamoiaaa.Z Go.RowKit Go.Proofs.YtpbhepdgamoiaaaW.PrintWords Go.Proofs.YtpbhepdgamoiaaaW.PrintLast Go.Proofs.YtpbhepdgamoiaaaW.PrintMore
attribute [local go_sem] max2_int min2_int max_two min_two max_three min_three max_four min_four
set_option linter.unusedVariables false
set_option linter.unusedSimpArgs false
attribute [local go_sem high] eqA77
def dioramalaw10_awake.f (k : Nat)  : Option (Bool) := (edit_Normal.f k (([(⟨10, 0, 1, 1⟩ : S77), (⟨5, 10, 1, 1⟩ : S77)] : List (S77))) 10 10).bind fun bt137 => (if bt137.2 = 0 then (if (bt137.1.length : Int) = 1 then (if 0 < (bt137.1.length : Int) then (some (((rd_T77 bt137.1 0).f0) == 15 && (((rd_T77 bt137.1 0).f1) == 0 && (((rd_T77 bt137.1 0).f2) == 1 && (((rd_T77 bt137.1 0).f3) == 1))))) else (none)) else (some false)) else (some false))
set_option maxHeartbeats 8000000 in
set_option maxRecDepth 100000 in
theorem dioramalaw10_awake.calls (k : Nat)  (r : Bool) (w : World) (h : dioramalaw10_awake.f k  = some r) :
  Calls Try.prog 20 #[] w fun e w' => e = .returned (.bool r) ∧ Below w.heap.size w w' := by
 have hu77 := Try.underlying77; have HB := Aside0.mk (Below.refl w.heap.size w); have H : ((edit_Normal.f k (([(⟨10, 0, 1, 1⟩ : S77), (⟨5, 10, 1, 1⟩ : S77)] : List (S77))) 10 10).bind fun bt137 => (if bt137.2 = 0 then (if (bt137.1.length : Int) = 1 then (if 0 < (bt137.1.length : Int) then (some (((rd_T77 bt137.1 0).f0) == 15 && (((rd_T77 bt137.1 0).f1) == 0 && (((rd_T77 bt137.1 0).f2) == 1 && (((rd_T77 bt137.1 0).f3) == 1))))) else (none)) else (some false)) else (some false))) = some r := h
 clear h; obtain ⟨y134, hy134⟩ : ∃ y_ : List (S77), y_ = (([(⟨10, 0, 1, 1⟩ : S77), (⟨5, 10, 1, 1⟩ : S77)] : List (S77))) := ⟨_, rfl⟩; replace H : ((edit_Normal.f k y134 10 10).bind fun bt137 => (if bt137.2 = 0 then (if (bt137.1.length : Int) = 1 then (if 0 < (bt137.1.length : Int) then (some (((rd_T77 bt137.1 0).f0) == 15 && (((rd_T77 bt137.1 0).f1) == 0 && (((rd_T77 bt137.1 0).f2) == 1 && (((rd_T77 bt137.1 0).f3) == 1))))) else (none)) else (some false)) else (some false))) = some r := by first | (rw [hy134]; with_reducible exact H) | (have H2_ := (Option.bind_some _ _).symm.trans H; rw [hy134]; with_reducible exact H2_) | (have H2_ := (Option.bind_some _ _).symm.trans H; with_reducible exact H2_) | with_reducible exact H | (rw [hy134]; exact H) | exact H
 have Ny134 := Aside0.mk hy134; clear hy134; obtain ⟨⟨t137, t138⟩, A1, H⟩ := ob H
 (try dsimp only at H)
 by_cases c2 : t138 = 0
 ·rw [if_pos c2] at H; have c2b0 : (t138 == 0) = true := beq_iff_eq.mpr c2; have c2b1 : (t138 != 0) = false := bne_eq_false_iff_eq.mpr c2; clear c2
  by_cases c3 : (t137.length : Int) = 1
  ·rw [if_pos c3] at H; have c3b0 : ((t137.length : Int) == 1) = true := beq_iff_eq.mpr c3; have c3b1 : ((t137.length : Int) != 1) = false := bne_eq_false_iff_eq.mpr c3; clear c3
   by_cases c4 : 0 < (t137.length : Int)
   ·rw [if_pos c4] at H; have c4b0 : decide (0 < (t137.length : Int)) = true := decide_eq_true c4; have c4b1 : decide (0 < t137.length) = true := decide_eq_true (by omega); clear c4; obtain rfl := Option.some.inj H
    go_enter Try.func20, Try.ntmps20
    go_wp2_with (first | ((with_reducible refine gate_dst (N := 6) rfl ?_); refine Kd.R_lit k77 _ 77 ?hg (N := 6) ?hd (xs := ([(⟨10, 0, 1, 1⟩ : S77), (⟨5, 10, 1, 1⟩ : S77)] : List (S77))) (inner := [.int .i64 10, .int .i64 0, .int .i64 1, .int .i64 1, .int .i64 5, .int .i64 10, .int .i64 1, .int .i64 1]) (ok := fun _ => True) (okp := fun _ => True) ?hr ?hp (fun _ hk => hk) trivial (Below.refl _ _) (Nat.le_refl _) (by simp) ?_; (case hd => rfl); (case hg => rfl); (case hr => first | (go_simp; done) | (go_simp; rfl)); (case hp => exact (Reps.c4 (show Kd.M k77 _ _ _ (⟨10, 0, 1, 1⟩ : S77) [.int .i64 10, .int .i64 0, .int .i64 1, .int .i64 1] from (k77_mkM _ _ _ (⟨10, 0, 1, 1⟩ : S77) )) (Reps.c4 (show Kd.M k77 _ _ _ (⟨5, 10, 1, 1⟩ : S77) [.int .i64 5, .int .i64 10, .int .i64 1, .int .i64 1] from (k77_mkM _ _ _ (⟨5, 10, 1, 1⟩ : S77) )) (Reps.none _ _)))); intro v135 w5 ho6 hb hg_ hnew_; clear hg_ hnew_; (first | rw [← Ny134.out] at ho6 | (simp only [Int.reduceToNat] at ho6; rw [← Ny134.out] at ho6)); have HO136 := Aside0.mk (Kd.R_lower ho6 sz); replace HB := bp hb; clear hb ho6; obtain ⟨Ao7, co7, eo7⟩ := Kd.R_slice HO136.out; subst eo7) | ((with_reducible refine gate_callee (f := 21) rfl ?_); refine zC 7 Try.func21 #[.slice Ao7 y134.length co7, .int .i64 10, .int .i64 10] ?_; (with_reducible refine (edit_Normal.calls k _ _ y134 10 10 t137 t138 _ ?side1 ?side2 A1.out).mono ?_); (case side1 => exact cr HO136); (case side2 => exact (Kd.R_reads' HO136.out).2.1); rintro e w8 ⟨v139, rfl, ho0, hb⟩; refine ⟨_, rfl, ?_⟩; have HO140 := Aside0.mk (Kd.R_lower (Kd.R_new' ho0 (Kd.R_lt (rz HO136))) sz); replace HO136 := Aside0.mk (Kd.R_elder' (rz HO136) (Kd.R_base ho0) hb); replace HB := bp hb; clear hb ho0; obtain ⟨Ao9, co9, eo9⟩ := Kd.R_slice HO140.out; subst eo9; have p141 : 0 ≤ (0 : Int) := (by omega); have q141 : 0 < (t137.length : Int) := od; obtain ⟨ad141, e141, hx141_0, hx141_1, hx141_2, hx141_3⟩ := at_T77 (Kd.R_reads' HO140.out).2.2 0 p141 q141; cases e141; have qi141 : (0 < t137.length) = True := eq_true (by omega); (try rw [show ((0 : Int)).toNat = 0 from rfl] at hx141_0); (try rw [show 0 * 4 = 0 from rfl] at hx141_0); (try rw [Addr.add_zero'] at hx141_0); (try rw [show ((0 : Int)).toNat = 0 from rfl] at hx141_1); (try rw [show 0 * 4 = 0 from rfl] at hx141_1); (try rw [Addr.add_zero'] at hx141_1); (try rw [show ((0 : Int)).toNat = 0 from rfl] at hx141_2); (try rw [show 0 * 4 = 0 from rfl] at hx141_2); (try rw [Addr.add_zero'] at hx141_2); (try rw [show ((0 : Int)).toNat = 0 from rfl] at hx141_3); (try rw [show 0 * 4 = 0 from rfl] at hx141_3); (try rw [Addr.add_zero'] at hx141_3); replace p141 := eq_true p141; replace q141 := eq_true q141))
    go_ret
    exact ⟨ez, bz⟩
   ·rw [if_neg c4] at H
    exact absurd H (by simp)
  ·rw [if_neg c3] at H; have c3b0 : ((t137.length : Int) == 1) = false := beq_eq_false_iff_ne.mpr c3; have c3b1 : ((t137.length : Int) != 1) = true := bne_iff_ne.mpr c3; obtain rfl := Option.some.inj H
   go_enter Try.func20, Try.ntmps20
   go_wp2_with (first | ((with_reducible refine gate_dst (N := 6) rfl ?_); refine Kd.R_lit k77 _ 77 ?hg (N := 6) ?hd (xs := ([(⟨10, 0, 1, 1⟩ : S77), (⟨5, 10, 1, 1⟩ : S77)] : List (S77))) (inner := [.int .i64 10, .int .i64 0, .int .i64 1, .int .i64 1, .int .i64 5, .int .i64 10, .int .i64 1, .int .i64 1]) (ok := fun _ => True) (okp := fun _ => True) ?hr ?hp (fun _ hk => hk) trivial (Below.refl _ _) (Nat.le_refl _) (by simp) ?_; (case hd => rfl); (case hg => rfl); (case hr => first | (go_simp; done) | (go_simp; rfl)); (case hp => exact (Reps.c4 (show Kd.M k77 _ _ _ (⟨10, 0, 1, 1⟩ : S77) [.int .i64 10, .int .i64 0, .int .i64 1, .int .i64 1] from (k77_mkM _ _ _ (⟨10, 0, 1, 1⟩ : S77) )) (Reps.c4 (show Kd.M k77 _ _ _ (⟨5, 10, 1, 1⟩ : S77) [.int .i64 5, .int .i64 10, .int .i64 1, .int .i64 1] from (k77_mkM _ _ _ (⟨5, 10, 1, 1⟩ : S77) )) (Reps.none _ _)))); intro v135 w10 ho11 hb hg_ hnew_; clear hg_ hnew_; (first | rw [← Ny134.out] at ho11 | (simp only [Int.reduceToNat] at ho11; rw [← Ny134.out] at ho11)); have HO136 := Aside0.mk (Kd.R_lower ho11 sz); replace HB := bp hb; clear hb ho11; obtain ⟨Ao12, co12, eo12⟩ := Kd.R_slice HO136.out; subst eo12) | ((with_reducible refine gate_callee (f := 21) rfl ?_); refine zC 7 Try.func21 #[.slice Ao12 y134.length co12, .int .i64 10, .int .i64 10] ?_; (with_reducible refine (edit_Normal.calls k _ _ y134 10 10 t137 t138 _ ?side1 ?side2 A1.out).mono ?_); (case side1 => exact cr HO136); (case side2 => exact (Kd.R_reads' HO136.out).2.1); rintro e w13 ⟨v139, rfl, ho0, hb⟩; refine ⟨_, rfl, ?_⟩; have HO140 := Aside0.mk (Kd.R_lower (Kd.R_new' ho0 (Kd.R_lt (rz HO136))) sz); replace HO136 := Aside0.mk (Kd.R_elder' (rz HO136) (Kd.R_base ho0) hb); replace HB := bp hb; clear hb ho0; obtain ⟨Ao14, co14, eo14⟩ := Kd.R_slice HO140.out; subst eo14))
   go_ret
   exact ⟨ez, bz⟩
 ·rw [if_neg c2] at H; have c2b0 : (t138 == 0) = false := beq_eq_false_iff_ne.mpr c2; have c2b1 : (t138 != 0) = true := bne_iff_ne.mpr c2; obtain rfl := Option.some.inj H
  go_enter Try.func20, Try.ntmps20
  go_wp2_with (first | ((with_reducible refine gate_dst (N := 6) rfl ?_); refine Kd.R_lit k77 _ 77 ?hg (N := 6) ?hd (xs := ([(⟨10, 0, 1, 1⟩ : S77), (⟨5, 10, 1, 1⟩ : S77)] : List (S77))) (inner := [.int .i64 10, .int .i64 0, .int .i64 1, .int .i64 1, .int .i64 5, .int .i64 10, .int .i64 1, .int .i64 1]) (ok := fun _ => True) (okp := fun _ => True) ?hr ?hp (fun _ hk => hk) trivial (Below.refl _ _) (Nat.le_refl _) (by simp) ?_; (case hd => rfl); (case hg => rfl); (case hr => first | (go_simp; done) | (go_simp; rfl)); (case hp => exact (Reps.c4 (show Kd.M k77 _ _ _ (⟨10, 0, 1, 1⟩ : S77) [.int .i64 10, .int .i64 0, .int .i64 1, .int .i64 1] from (k77_mkM _ _ _ (⟨10, 0, 1, 1⟩ : S77) )) (Reps.c4 (show Kd.M k77 _ _ _ (⟨5, 10, 1, 1⟩ : S77) [.int .i64 5, .int .i64 10, .int .i64 1, .int .i64 1] from (k77_mkM _ _ _ (⟨5, 10, 1, 1⟩ : S77) )) (Reps.none _ _)))); intro v135 w15 ho16 hb hg_ hnew_; clear hg_ hnew_; (first | rw [← Ny134.out] at ho16 | (simp only [Int.reduceToNat] at ho16; rw [← Ny134.out] at ho16)); have HO136 := Aside0.mk (Kd.R_lower ho16 sz); replace HB := bp hb; clear hb ho16; obtain ⟨Ao17, co17, eo17⟩ := Kd.R_slice HO136.out; subst eo17) | ((with_reducible refine gate_callee (f := 21) rfl ?_); refine zC 7 Try.func21 #[.slice Ao17 y134.length co17, .int .i64 10, .int .i64 10] ?_; (with_reducible refine (edit_Normal.calls k _ _ y134 10 10 t137 t138 _ ?side1 ?side2 A1.out).mono ?_); (case side1 => exact cr HO136); (case side2 => exact (Kd.R_reads' HO136.out).2.1); rintro e w18 ⟨v139, rfl, ho0, hb⟩; refine ⟨_, rfl, ?_⟩; have HO140 := Aside0.mk (Kd.R_lower (Kd.R_new' ho0 (Kd.R_lt (rz HO136))) sz); replace HO136 := Aside0.mk (Kd.R_elder' (rz HO136) (Kd.R_base ho0) hb); replace HB := bp hb; clear hb ho0))
  go_ret
  exact ⟨ez, bz⟩
end Go.Proofs.Ytpbhepdgamoiaaa.E
namespace Go.Proofs.Ytpbhepdgamoiaaa.E
open Go.Proofs.Ytpbhepdgamoiaaa.Z Go.RowKit Go.Proofs.YtpbhepdgamoiaaaW.PrintWords Go.Proofs.YtpbhepdgamoiaaaW.PrintLast Go.Proofs.YtpbhepdgamoiaaaW.PrintMore
attribute [local go_sem] max2_int min2_int max_two min_two max_three min_three max_four min_four
set_option linter.unusedVariables false
set_option linter.unusedSimpArgs false
def dioramaref02_Of.l0 : Nat → Int → List Int → Option (List Int)
  | 0, _, _ => none
  | k + 1, x0, x3 => if x0 > 0 then (if x3.length < 17592186044416 then (dioramaref02_Of.l0 k (wrap64 (Int.tdiv x0 1000000000)) (x3 ++ [Int.tmod x0 1000000000])) else (none)) else (some x3)
def dioramaref02_Of.f (k : Nat) (a0 : Int) : Option (List Int) := dioramaref02_Of.l0 k a0 ([] : List Int)
set_option maxHeartbeats 8000000 in
set_option maxRecDepth 100000 in
theorem dioramaref02_Of.calls (k : Nat) (a0 : Int) (r : List Int) (w : World) (h : dioramaref02_Of.f k a0 = some r) :
  Calls Try.prog 121 #[.int .i64 a0] w fun e w' => ∃ v0_ : Value, e = .returned (v0_) ∧ Kd.R (Kd.int .i64) 3 w' w.heap.size (fun _ => True) v0_ r ∧ Below w.heap.size w w' := by
 have HB := Aside0.mk (Below.refl w.heap.size w); have H : (dioramaref02_Of.l0 k a0 ([] : List Int)) = some r := h; clear h; have H' := Aside0.mk H; clear H
 go_enter Try.func121, Try.ntmps121
 go_wp2
 go_loopg [0, 3] k (fun kq v0 v3 w' => ∃ (x0_1 : Int) (x3_1 : List Int), v0 = .int .i64 x0_1 ∧ Aside0 (dioramaref02_Of.l0 kq x0_1 x3_1 = some r) ∧ Aside0 (kq ≤ k) ∧ Aside0 (Kd.R (Kd.int .i64) 3 w' w.heap.size (fun _ => True) v3 x3_1) ∧ Aside0 (Below w.heap.size w w'))
 case atStart => exact ⟨(a0), (([] : List Int)), jz, H', ⟨Nat.le_refl _⟩, ⟨by first | exact Kd.R_nil _ _ _ _ _ | exact Kd.N_nil _ _ _ _ _ | exact Kd.V_nil _ _ _ _ _ | exact Kd.Q_nil _ _ _ _ _ | exact Kd.S_nil _ _ _ _ _⟩, ⟨bz⟩⟩
 case round =>
  clear H'
  try clear c1
  obtain ⟨x0_1, x3_1, rfl, HA, HK1, HO_3, HB⟩ := hrel
  cases gk with
  | zero => exact absurd HA.out (by simp [dioramaref02_Of.l0])
  | succ k1 =>
   have H := HA.out; clear HA; simp only [dioramaref02_Of.l0] at H
   by_cases c2 : x0_1 > 0
   ·rw [if_pos c2] at H; have c2b0 : decide (0 < x0_1) = true := decide_eq_true c2; clear c2
    by_cases c3 : x3_1.length < 17592186044416
    ·rw [if_pos c3] at H; have LMc3 := Aside0.mk c3; clear c3; obtain ⟨y170, hy170⟩ : ∃ y_ : List Int, y_ = (x3_1 ++ [Int.tmod x0_1 1000000000]) := ⟨_, rfl⟩; replace H : (dioramaref02_Of.l0 k1 (wrap64 (Int.tdiv x0_1 1000000000)) y170) = some r := by first | (rw [hy170]; with_reducible exact H) | (have H2_ := (Option.bind_some _ _).symm.trans H; rw [hy170]; with_reducible exact H2_) | (have H2_ := (Option.bind_some _ _).symm.trans H; with_reducible exact H2_) | with_reducible exact H | (rw [hy170]; exact H) | exact H
     have Ny170 := Aside0.mk hy170; clear hy170; have H' := Aside0.mk H; clear H
     go_wp2_with (first | ((with_reducible refine gate_builtin (b := .append) (xs := #[.tmp 6, .tmp 9]) rfl ?_); at_builtin; refine Kd.R_append (Kd.int .i64) (w0 := w) w.heap.size rfl (.tmp 6) (.tmp 9) 93 3 (.int .i64 0) 8 rfl Try.underlying93 info3 rfl (by decide) (by omega) u3 x3_1 (Int.tmod x0_1 1000000000) [.int .i64 (Int.tmod x0_1 1000000000)] (fun _ => True) (fun _ => False) rfl rfl ?aP (fun _ hk => hk.elim) ?aF ?aO ?aB ?aS ?aL ?_; (case aP => exact rfl); (case aB => exact bz); (case aF => exact (fun _ _ => trivial)); (case aO => exact (rz HO_3)); (case aS => exact sz); (case aL => have := LMc3.out; omega); intro v171 w4 ho hb hg hat; rw [← Ny170.out] at ho; replace HB := Aside0.mk (hb); have HO172 := Aside0.mk (ho); clear HO_3; clear ho hb hg hat))
     go_roundg k1
     case measure => have := HK1.out; omega
     case rel => exact ⟨(wrap64 (Int.tdiv x0_1 1000000000)), (y170), jz, H', ⟨by have := HK1.out; omega⟩, ⟨rz HO172⟩, ⟨bz⟩⟩
    ·rw [if_neg c3] at H
     exact absurd H (by simp)
   ·rw [if_neg c2] at H; have c2b0 : decide (0 < x0_1) = false := decide_eq_false c2; clear c2; obtain rfl := Option.some.inj H
    go_wp2
    go_ret
    exact ⟨_, ez, by (with_reducible repeat (first | apply Kd.R_alloc | apply Kd.R_drewN | apply Kd.R_drew)); exact HO_3.out, bz⟩
def dioramaref02_Compare.l0 : Nat → List Int → List Int → Int → Option (Int)
  | 0, _, _, _ => none
  | k + 1, x0, x1, x5 => if x5 ≥ 0 then (if 0 ≤ x5 then (if x5 < (x0.length : Int) then (if x5 < (x1.length : Int) then (if (rd x0 x5) < (rd x1 x5) then (some (-1)) else (if (rd x0 x5) > (rd x1 x5) then (some 1) else (dioramaref02_Compare.l0 k x0 x1 (wrap64 (x5 - 1))))) else (none)) else (none)) else (none)) else (some 0)
def dioramaref02_Compare.f (k : Nat) (l0 : List Int) (l1 : List Int) : Option (Int) := if (l0.length : Int) = (l1.length : Int) then (dioramaref02_Compare.l0 k l0 l1 (wrap64 ((l0.length : Int) - 1))) else (if (l0.length : Int) < (l1.length : Int) then (some (-1)) else (some 1))
set_option maxHeartbeats 8000000 in
set_option maxRecDepth 100000 in
theorem dioramaref02_Compare.calls (k : Nat) (A0 : Option Addr) (c0 : Nat) (l0 : List Int) (A1 : Option Addr) (c1 : Nat) (l1 : List Int) (r : Int) (w : World) (hr0 : Kd.C (Kd.int .i64) w A0 l0.length l0) (hc0 : l0.length ≤ c0) (hr1 : Kd.C (Kd.int .i64) w A1 l1.length l1) (hc1 : l1.length ≤ c1) (h : dioramaref02_Compare.f k l0 l1 = some r) :
  Calls Try.prog 122 #[.slice A0 l0.length c0, .slice A1 l1.length c1] w fun e w' => e = .returned (.int .i64 r) ∧ Drawn0 w w' := by
 have HR0 := Aside0.mk hr0; have HC0 := Aside0.mk hc0; clear hr0 hc0; have HR1 := Aside0.mk hr1; have HC1 := Aside0.mk hc1; clear hr1 hc1; have H : (if (l0.length : Int) = (l1.length : Int) then (dioramaref02_Compare.l0 k l0 l1 (wrap64 ((l0.length : Int) - 1))) else (if (l0.length : Int) < (l1.length : Int) then (some (-1)) else (some 1))) = some r := h; clear h
 by_cases c3 : (l0.length : Int) = (l1.length : Int)
 ·rw [if_pos c3] at H; have c3b0 : ((l0.length : Int) == (l1.length : Int)) = true := beq_iff_eq.mpr c3; have c3b1 : ((l0.length : Int) != (l1.length : Int)) = false := bne_eq_false_iff_eq.mpr c3; have c3b2 : (l0.length == l1.length) = true := by first | simpa using c3 | (simp at c3 ⊢; omega)
  clear c3; have H' := Aside0.mk H; clear H
  go_enter Try.func122, Try.ntmps122
  go_wp2
  repeat (go_quiet (fail); try go_wp2)
  go_loopg [5] k (fun kq v5 w' => ∃ (x5_1 : Int), v5 = .int .i64 x5_1 ∧ Aside0 (dioramaref02_Compare.l0 kq l0 l1 x5_1 = some r) ∧ Aside0 (kq ≤ k) ∧ Drawn0 w w')
  case atStart => exact ⟨(wrap64 ((l0.length : Int) - 1)), jz, H', ⟨Nat.le_refl _⟩, by repeat (first | exact Drawn0.refl _ | apply Drawn0.step)⟩
  case round =>
   clear H'
   try clear c1
   try clear p2
   try clear c3
   try clear c3b0
   try clear c3b1
   try clear c3b2
   obtain ⟨x5_1, rfl, HA, HK1, ⟨m1, rfl⟩⟩ := hrel
   cases gk with
   | zero => exact absurd HA.out (by simp [dioramaref02_Compare.l0])
   | succ k1 =>
    have H := HA.out; clear HA; simp only [dioramaref02_Compare.l0] at H
    by_cases c4 : x5_1 ≥ 0
    ·rw [if_pos c4] at H; have c4b0 : decide (0 ≤ x5_1) = true := decide_eq_true c4; clear c4
     by_cases c5 : 0 ≤ x5_1
     ·rw [if_pos c5] at H; have c5b0 : decide (0 ≤ x5_1) = true := decide_eq_true c5; clear c5
      by_cases c6 : x5_1 < (l0.length : Int)
      ·rw [if_pos c6] at H; have c6b0 : decide (x5_1 < (l0.length : Int)) = true := decide_eq_true c6; clear c6
       by_cases c7 : x5_1 < (l1.length : Int)
       ·rw [if_pos c7] at H; have c7b0 : decide (x5_1 < (l1.length : Int)) = true := decide_eq_true c7; clear c7
        by_cases c8 : (rd l0 x5_1) < (rd l1 x5_1)
        ·rw [if_pos c8] at H; have c8b0 : decide ((rd l0 x5_1) < (rd l1 x5_1)) = true := decide_eq_true c8; clear c8; obtain rfl := Option.some.inj H; have p186 : 0 ≤ (x5_1 : Int) := od; have q186 : x5_1 < (l0.length : Int) := od; obtain ⟨ad186, e186, hx186_0⟩ := Kd.at_int HR0.out x5_1 p186 q186
         cases e186
         replace p186 := eq_true p186; replace q186 := eq_true q186; have p187 : 0 ≤ (x5_1 : Int) := od; have q187 : x5_1 < (l1.length : Int) := od; obtain ⟨ad187, e187, hx187_0⟩ := Kd.at_int HR1.out x5_1 p187 q187
         cases e187
         replace p187 := eq_true p187; replace q187 := eq_true q187
         go_wp2
         repeat (go_quiet (fail); try go_wp2)
         go_ret
         exact ⟨by first | rfl | (simp; done) | (simp [*]; done), by repeat (first | exact Drawn0.refl _ | apply Drawn0.step)⟩
        ·rw [if_neg c8] at H; have c8b0 : decide ((rd l0 x5_1) < (rd l1 x5_1)) = false := decide_eq_false c8; clear c8
         by_cases c9 : (rd l0 x5_1) > (rd l1 x5_1)
         ·rw [if_pos c9] at H; have c9b0 : decide ((rd l1 x5_1) < (rd l0 x5_1)) = true := decide_eq_true c9; clear c9; obtain rfl := Option.some.inj H; have p186 : 0 ≤ (x5_1 : Int) := od; have q186 : x5_1 < (l0.length : Int) := od; obtain ⟨ad186, e186, hx186_0⟩ := Kd.at_int HR0.out x5_1 p186 q186
          cases e186
          replace p186 := eq_true p186; replace q186 := eq_true q186; have p187 : 0 ≤ (x5_1 : Int) := od; have q187 : x5_1 < (l1.length : Int) := od; obtain ⟨ad187, e187, hx187_0⟩ := Kd.at_int HR1.out x5_1 p187 q187
          cases e187
          replace p187 := eq_true p187; replace q187 := eq_true q187; have p188 : 0 ≤ (x5_1 : Int) := od; have q188 : x5_1 < (l0.length : Int) := od; obtain ⟨ad188, e188, hx188_0⟩ := Kd.at_int HR0.out x5_1 p188 q188; obtain rfl : ad186 = ad188 := (by injection e188); replace p188 := eq_true p188; replace q188 := eq_true q188; have p189 : 0 ≤ (x5_1 : Int) := od; have q189 : x5_1 < (l1.length : Int) := od; obtain ⟨ad189, e189, hx189_0⟩ := Kd.at_int HR1.out x5_1 p189 q189; obtain rfl : ad187 = ad189 := (by injection e189); replace p189 := eq_true p189; replace q189 := eq_true q189
          go_wp2
          repeat (go_quiet (fail); try go_wp2)
          go_ret
          exact ⟨by first | rfl | (simp; done) | (simp [*]; done), by repeat (first | exact Drawn0.refl _ | apply Drawn0.step)⟩
         ·rw [if_neg c9] at H; have c9b0 : decide ((rd l1 x5_1) < (rd l0 x5_1)) = false := decide_eq_false c9; clear c9; have H' := Aside0.mk H; clear H; have p186 : 0 ≤ (x5_1 : Int) := od; have q186 : x5_1 < (l0.length : Int) := od; obtain ⟨ad186, e186, hx186_0⟩ := Kd.at_int HR0.out x5_1 p186 q186
          cases e186
          replace p186 := eq_true p186; replace q186 := eq_true q186; have p187 : 0 ≤ (x5_1 : Int) := od; have q187 : x5_1 < (l1.length : Int) := od; obtain ⟨ad187, e187, hx187_0⟩ := Kd.at_int HR1.out x5_1 p187 q187
          cases e187
          replace p187 := eq_true p187; replace q187 := eq_true q187; have p188 : 0 ≤ (x5_1 : Int) := od; have q188 : x5_1 < (l0.length : Int) := od; obtain ⟨ad188, e188, hx188_0⟩ := Kd.at_int HR0.out x5_1 p188 q188; obtain rfl : ad186 = ad188 := (by injection e188); replace p188 := eq_true p188; replace q188 := eq_true q188; have p189 : 0 ≤ (x5_1 : Int) := od; have q189 : x5_1 < (l1.length : Int) := od; obtain ⟨ad189, e189, hx189_0⟩ := Kd.at_int HR1.out x5_1 p189 q189; obtain rfl : ad187 = ad189 := (by injection e189); replace p189 := eq_true p189; replace q189 := eq_true q189
          go_wp2
          repeat (go_quiet (fail); try go_wp2)
          go_roundg k1
          case measure => have := HK1.out; omega
          case rel => exact ⟨(wrap64 (x5_1 - 1)), jz, H', ⟨by have := HK1.out; omega⟩, by repeat (first | exact Drawn0.refl _ | apply Drawn0.step)⟩
       ·rw [if_neg c7] at H
        exact absurd H (by simp)
      ·rw [if_neg c6] at H
       exact absurd H (by simp)
     ·rw [if_neg c5] at H
      exact absurd H (by simp)
    ·rw [if_neg c4] at H; have c4b0 : decide (0 ≤ x5_1) = false := decide_eq_false c4; clear c4; obtain rfl := Option.some.inj H
     go_wp2
     repeat (go_quiet (fail); try go_wp2)
     go_ret
     exact ⟨by first | rfl | (simp; done) | (simp [*]; done), by repeat (first | exact Drawn0.refl _ | apply Drawn0.step)⟩
 ·rw [if_neg c3] at H; have c3b0 : ((l0.length : Int) == (l1.length : Int)) = false := beq_eq_false_iff_ne.mpr c3; have c3b1 : ((l0.length : Int) != (l1.length : Int)) = true := bne_iff_ne.mpr c3; have c3b2 : (l0.length == l1.length) = false := by first | simpa using c3 | (simp at c3 ⊢; omega)
  by_cases c10 : (l0.length : Int) < (l1.length : Int)
  ·rw [if_pos c10] at H; have c10b0 : decide ((l0.length : Int) < (l1.length : Int)) = true := decide_eq_true c10; have c10b1 : decide (l0.length < l1.length) = true := decide_eq_true (Int.ofNat_lt.mp c10); clear c10; obtain rfl := Option.some.inj H
   go_enter Try.func122, Try.ntmps122
   go_wp2
   repeat (go_quiet (fail); try go_wp2)
   go_ret
   exact ⟨by first | rfl | (simp; done) | (simp [*]; done), by repeat (first | exact Drawn0.refl _ | apply Drawn0.step)⟩
  ·rw [if_neg c10] at H; have c10b0 : decide ((l0.length : Int) < (l1.length : Int)) = false := decide_eq_false c10; have c10b1 : decide (l0.length < l1.length) = false := decide_eq_false (fun h => c10 (Int.ofNat_lt.mpr h))
   clear c10; obtain rfl := Option.some.inj H
   go_enter Try.func122, Try.ntmps122
   go_wp2
   repeat (go_quiet (fail); try go_wp2)
   go_ret
   exact ⟨by first | rfl | (simp; done) | (simp [*]; done), by repeat (first | exact Drawn0.refl _ | apply Drawn0.step)⟩
def dioramaref02_trimmed.l0 : Nat → List Int → Int → Option (List Int)
  | 0, _, _ => none
  | k + 1, x0, x3 => if x3 > 0 then (if 0 ≤ (wrap64 (x3 - 1)) then (if (wrap64 (x3 - 1)) < (x0.length : Int) then (if (rd x0 (wrap64 (x3 - 1))) = 0 then (dioramaref02_trimmed.l0 k x0 (wrap64 (x3 - 1))) else (if 0 ≤ x3 then (if x3 ≤ (x0.length : Int) then (some (x0.take (x3 : Int).toNat)) else (none)) else (none))) else (none)) else (none)) else (if 0 ≤ x3 then (if x3 ≤ (x0.length : Int) then (some (x0.take (x3 : Int).toNat)) else (none)) else (none))
def dioramaref02_trimmed.f (k : Nat) (l0 : List Int) : Option (List Int) := dioramaref02_trimmed.l0 k l0 (l0.length : Int)
set_option maxHeartbeats 8000000 in
set_option maxRecDepth 100000 in
theorem dioramaref02_trimmed.calls (k : Nat) (P0_ : Nat → Prop) (u9000_ : Value) (l0 : List Int) (r : List Int) (w0 w : World) (hB : Below w0.heap.size w0 w) (ho0 : Kd.R (Kd.int .i64) 3 w w0.heap.size P0_ u9000_ l0) (h : dioramaref02_trimmed.f k l0 = some r) :
  Calls Try.prog 154 #[u9000_] w fun e w' => ∃ v0_ : Value, e = .returned (v0_) ∧ Kd.R (Kd.int .i64) 3 w' w0.heap.size (fun k_ => (P0_ k_ ∨ w.heap.size ≤ k_)) v0_ r ∧ Below w0.heap.size w0 w' ∧ Kept w w' (fun k_ => P0_ k_) := by
 have HO0 := Aside0.mk (show Kd.R (Kd.int .i64) 3 w w0.heap.size (fun k_ => (P0_ k_ ∨ w.heap.size ≤ k_)) u9000_ l0 from Kd.R_mono ho0 (fun k_ hk => (.inl hk)))
 have HK := Aside0.mk (Kept.refl w (fun k_ => P0_ k_)); have HW0 := Aside0.mk hB.size; have HB := Aside0.mk hB; clear hB; have H : (dioramaref02_trimmed.l0 k l0 (l0.length : Int)) = some r := h; clear h; have H' := Aside0.mk H; clear H; obtain ⟨Ao2, co2, eo2⟩ := Kd.R_slice HO0.out; subst eo2
 go_enter Try.func154, Try.ntmps154
 go_wp2
 go_loopg [3] k (fun kq v3 w' => ∃ (x3_1 : Int), v3 = .int .i64 x3_1 ∧ Aside0 (dioramaref02_trimmed.l0 kq l0 x3_1 = some r) ∧ Aside0 (kq ≤ k) ∧ Aside0 (Kd.R (Kd.int .i64) 3 w' w0.heap.size (fun k_ => (P0_ k_ ∨ w.heap.size ≤ k_)) (.slice Ao2 l0.length co2) l0) ∧ Aside0 (Kept w w' (fun k_ => P0_ k_)) ∧ Aside0 (Below w0.heap.size w0 w'))
 case atStart => exact ⟨((l0.length : Int)), jz, H', ⟨Nat.le_refl _⟩, ⟨rz HO0⟩, ⟨by repeat (first | (with_reducible first | exact HK.out | apply Kept.alloc | apply Kept.drewN | apply Kept.drew) | exact HK.out)⟩, ⟨bz⟩⟩
 case round =>
  clear H'
  try clear c1
  try clear p2
  obtain ⟨x3_1, rfl, HA, HK1, HO_0, HK, HB⟩ := hrel
  cases gk with
  | zero => exact absurd HA.out (by simp [dioramaref02_trimmed.l0])
  | succ k1 =>
   have H := HA.out; clear HA; simp only [dioramaref02_trimmed.l0] at H
   by_cases c3 : x3_1 > 0
   ·rw [if_pos c3] at H; have c3b0 : decide (0 < x3_1) = true := decide_eq_true c3; clear c3; obtain ⟨ji4, hji4⟩ : ∃ j_ : Int, (wrap64 (x3_1 - 1)) = j_ := ⟨_, rfl⟩; replace H : (if 0 ≤ (ji4) then (if (ji4) < (l0.length : Int) then (if (rd l0 (ji4)) = 0 then (dioramaref02_trimmed.l0 k1 l0 ji4) else (if 0 ≤ x3_1 then (if x3_1 ≤ (l0.length : Int) then (some (l0.take (x3_1 : Int).toNat)) else (none)) else (none))) else (none)) else (none)) = some r := by first | (rw [hji4] at H; exact H) | (simp only [hji4] at H ⊢; exact H)
    have hji4w : (IntKind.i64.wrap (x3_1 - 1)) = ji4 := (i64_w _).trans hji4
    by_cases c5 : 0 ≤ (ji4)
    ·rw [if_pos c5] at H; have c5b0 : decide (0 ≤ (ji4)) = true := decide_eq_true c5; clear c5
     by_cases c6 : (ji4) < (l0.length : Int)
     ·rw [if_pos c6] at H; have c6b0 : decide ((ji4) < (l0.length : Int)) = true := decide_eq_true c6; clear c6
      by_cases c7 : (rd l0 (ji4)) = 0
      ·rw [if_pos c7] at H; have c7b0 : ((rd l0 (ji4)) == 0) = true := beq_iff_eq.mpr c7; have c7b1 : ((rd l0 (ji4)) != 0) = false := bne_eq_false_iff_eq.mpr c7; clear c7; have H' := Aside0.mk H; clear H; have p190 : 0 ≤ ((ji4) : Int) := od; have q190 : (ji4) < (l0.length : Int) := od; obtain ⟨ad190, e190, hx190_0⟩ := Kd.at_int (Kd.R_reads' HO_0.out).2.2 (ji4) p190 q190
       cases e190
       replace p190 := eq_true p190; replace q190 := eq_true q190
       go_wp2
       go_roundg k1
       case measure => have := HK1.out; omega
       case rel => exact ⟨(ji4), (by first | rfl | (simp; done) | (simp only [← hji4] <;> (first | rfl | simp)) | (simp [*]; done)), H', ⟨by have := HK1.out; omega⟩, ⟨rz HO_0⟩, ⟨by repeat (first | (with_reducible first | exact HK.out | apply Kept.alloc | apply Kept.drewN | apply Kept.drew) | exact HK.out)⟩, ⟨bz⟩⟩
      ·rw [if_neg c7] at H; have c7b0 : ((rd l0 (ji4)) == 0) = false := beq_eq_false_iff_ne.mpr c7; have c7b1 : ((rd l0 (ji4)) != 0) = true := bne_iff_ne.mpr c7
       by_cases c8 : 0 ≤ x3_1
       ·rw [if_pos c8] at H; have c8b0 := eq_true c8; have c8b1 : decide (0 ≤ x3_1) = true := decide_eq_true c8; clear c8
        by_cases c9 : x3_1 ≤ (l0.length : Int)
        ·rw [if_pos c9] at H; have c9b0 := eq_true c9; have c9b1 : decide (x3_1 ≤ (l0.length : Int)) = true := decide_eq_true c9; clear c9; obtain ⟨y191, hy191⟩ : ∃ y_ : List Int, y_ = (l0.take (x3_1 : Int).toNat) := ⟨_, rfl⟩; replace H : (some y191) = some r := by first | (rw [hy191]; with_reducible exact H) | (have H2_ := (Option.bind_some _ _).symm.trans H; rw [hy191]; with_reducible exact H2_) | (have H2_ := (Option.bind_some _ _).symm.trans H; with_reducible exact H2_) | with_reducible exact H | (rw [hy191]; exact H) | exact H
         have Ny191 := Aside0.mk hy191; clear hy191; obtain rfl := Option.some.inj H; have p190 : 0 ≤ ((ji4) : Int) := od; have q190 : (ji4) < (l0.length : Int) := od; obtain ⟨ad190, e190, hx190_0⟩ := Kd.at_int (Kd.R_reads' HO_0.out).2.2 (ji4) p190 q190
         cases e190
         replace p190 := eq_true p190; replace q190 := eq_true q190; have q10 : (x3_1 : Int) ≤ ((l0.length : Int) : Int) := od; obtain ⟨i010, hi010, _, hsz10, _⟩ := info_parts info3; have hcut10 := cut_to (P := Try.prog) 93 3 .i64 Try.underlying93 hi010 (some ad190) l0.length co2 x3_1 (od) q10 (Kd.R_reads' HO_0.out).2.1; have hr10 := Kd.R_take (m := (x3_1 : Int).toNat) HO_0.out (by omega); have hy10 : y191.length = (x3_1 : Int).toNat := (by rw [Ny191.out, List.length_take]; omega); rw [← Ny191.out] at hr10; rw [← hy10] at hr10 hcut10; clear hy10 hi010 hsz10 HO_0; have HO193 := Aside0.mk hr10; clear hr10; replace q10 := eq_true q10
         go_wp2
         go_ret
         exact ⟨_, by first | rfl | (simp [errW_none, errW_some] <;> rfl) | (simp only [← hji4]; first | rfl | (simp [errW_none, errW_some] <;> rfl)) | (simp [*, errW_none, errW_some] <;> rfl), by (with_reducible repeat (first | apply Kd.R_alloc | apply Kd.R_drewN | apply Kd.R_drew)); exact HO193.out, bz, by repeat (first | (with_reducible first | exact HK.out | apply Kept.alloc | apply Kept.drewN | apply Kept.drew) | exact HK.out)⟩
        ·rw [if_neg c9] at H
         exact absurd H (by simp)
       ·rw [if_neg c8] at H
        exact absurd H (by simp)
     ·rw [if_neg c6] at H
      exact absurd H (by simp)
    ·rw [if_neg c5] at H
     exact absurd H (by simp)
   ·rw [if_neg c3] at H; have c3b0 : decide (0 < x3_1) = false := decide_eq_false c3; clear c3
    by_cases c11 : 0 ≤ x3_1
    ·rw [if_pos c11] at H; have c11b0 := eq_true c11; have c11b1 : decide (0 ≤ x3_1) = true := decide_eq_true c11; clear c11
     by_cases c12 : x3_1 ≤ (l0.length : Int)
     ·rw [if_pos c12] at H; have c12b0 := eq_true c12; have c12b1 : decide (x3_1 ≤ (l0.length : Int)) = true := decide_eq_true c12; clear c12; obtain ⟨y194, hy194⟩ : ∃ y_ : List Int, y_ = (l0.take (x3_1 : Int).toNat) := ⟨_, rfl⟩; replace H : (some y194) = some r := by first | (rw [hy194]; with_reducible exact H) | (have H2_ := (Option.bind_some _ _).symm.trans H; rw [hy194]; with_reducible exact H2_) | (have H2_ := (Option.bind_some _ _).symm.trans H; with_reducible exact H2_) | with_reducible exact H | (rw [hy194]; exact H) | exact H
      have Ny194 := Aside0.mk hy194; clear hy194; obtain rfl := Option.some.inj H; have q13 : (x3_1 : Int) ≤ ((l0.length : Int) : Int) := od; obtain ⟨i013, hi013, _, hsz13, _⟩ := info_parts info3; have hcut13 := cut_to (P := Try.prog) 93 3 .i64 Try.underlying93 hi013 Ao2 l0.length co2 x3_1 (od) q13 (Kd.R_reads' HO_0.out).2.1; have hr13 := Kd.R_take (m := (x3_1 : Int).toNat) HO_0.out (by omega); have hy13 : y194.length = (x3_1 : Int).toNat := (by rw [Ny194.out, List.length_take]; omega); rw [← Ny194.out] at hr13; rw [← hy13] at hr13 hcut13; clear hy13 hi013 hsz13 HO_0; have HO196 := Aside0.mk hr13; clear hr13; replace q13 := eq_true q13
      go_wp2
      go_ret
      exact ⟨_, ez, by (with_reducible repeat (first | apply Kd.R_alloc | apply Kd.R_drewN | apply Kd.R_drew)); exact HO196.out, bz, by repeat (first | (with_reducible first | exact HK.out | apply Kept.alloc | apply Kept.drewN | apply Kept.drew) | exact HK.out)⟩
     ·rw [if_neg c12] at H
      exact absurd H (by simp)
    ·rw [if_neg c11] at H
     exact absurd H (by simp)
def dioramaref02_digit.f (l0 : List Int) (a1 : Int) : Option (Int) := if a1 < (l0.length : Int) then (if 0 ≤ a1 then (some (rd l0 a1)) else (none)) else (some 0)
set_option maxHeartbeats 8000000 in
set_option maxRecDepth 100000 in
theorem dioramaref02_digit.calls (A0 : Option Addr) (c0 : Nat) (l0 : List Int) (a1 : Int) (r : Int) (w : World) (hr0 : Kd.C (Kd.int .i64) w A0 l0.length l0) (hc0 : l0.length ≤ c0) (h : dioramaref02_digit.f l0 a1 = some r) :
  Calls Try.prog 155 #[.slice A0 l0.length c0, .int .i64 a1] w fun e w' => e = .returned (.int .i64 r) ∧ Drawn0 w w' := by
 have HR0 := Aside0.mk hr0; have HC0 := Aside0.mk hc0; clear hr0 hc0; have H : (if a1 < (l0.length : Int) then (if 0 ≤ a1 then (some (rd l0 a1)) else (none)) else (some 0)) = some r := h; clear h
 by_cases c3 : a1 < (l0.length : Int)
 ·rw [if_pos c3] at H; have c3b0 : decide (a1 < (l0.length : Int)) = true := decide_eq_true c3; clear c3
  by_cases c4 : 0 ≤ a1
  ·rw [if_pos c4] at H; have c4b0 : decide (0 ≤ a1) = true := decide_eq_true c4; clear c4; obtain rfl := Option.some.inj H; have p197 : 0 ≤ (a1 : Int) := od; have q197 : a1 < (l0.length : Int) := od; obtain ⟨ad197, e197, hx197_0⟩ := Kd.at_int HR0.out a1 p197 q197
   cases e197
   replace p197 := eq_true p197; replace q197 := eq_true q197
   go_enter Try.func155, Try.ntmps155
   go_wp2
   go_ret
   exact ⟨by first | rfl | (simp; done) | (simp [*]; done), by repeat (first | exact Drawn0.refl _ | apply Drawn0.step)⟩
  ·rw [if_neg c4] at H
   exact absurd H (by simp)
 ·rw [if_neg c3] at H; have c3b0 : decide (a1 < (l0.length : Int)) = false := decide_eq_false c3; clear c3; obtain rfl := Option.some.inj H
  go_enter Try.func155, Try.ntmps155
  go_wp2
  go_ret
  exact ⟨by first | rfl | (simp; done) | (simp [*]; done), by repeat (first | exact Drawn0.refl _ | apply Drawn0.step)⟩
mutual
def dioramaref02_Times.l0 : Nat → List Int → List Int → List Int → Int → Option (List Int)
  | 0, _, _, _, _ => none
  | k + 1, x0, x1, x5, x6 => if x6 < (x0.length : Int) then (dioramaref02_Times.l1 k x0 x1 x5 x6 0 0) else ((dioramaref02_trimmed.f k x5).bind fun t201 => (some t201))
def dioramaref02_Times.l1 : Nat → List Int → List Int → List Int → Int → Int → Int → Option (List Int)
  | 0, _, _, _, _, _, _ => none
  | k + 1, x0, x1, x5, x6, x7, x8 => if x8 < (x1.length : Int) then (if 0 ≤ (wrap64 (x6 + x8)) then (if (wrap64 (x6 + x8)) < (x5.length : Int) then (if 0 ≤ x6 then (if x6 < (x0.length : Int) then ((dioramaref02_digit.f x1 x8).bind fun t206 => (dioramaref02_Times.l1 k x0 x1 (x5.set ((wrap64 (x6 + x8)) : Int).toNat (Int.tmod (wrap64 ((wrap64 ((rd x5 (wrap64 (x6 + x8))) + (wrap64 ((rd x0 x6) * t206)))) + x7)) 1000000000)) x6 (wrap64 (Int.tdiv (wrap64 ((wrap64 ((rd x5 (wrap64 (x6 + x8))) + (wrap64 ((rd x0 x6) * t206)))) + x7)) 1000000000)) (wrap64 (x8 + 1)))) else (none)) else (none)) else (none)) else (none)) else (if x7 > 0 then (if 0 ≤ (wrap64 (x6 + x8)) then (if (wrap64 (x6 + x8)) < (x5.length : Int) then (if 0 ≤ x6 then (if x6 < (x0.length : Int) then ((dioramaref02_digit.f x1 x8).bind fun t210 => (dioramaref02_Times.l1 k x0 x1 (x5.set ((wrap64 (x6 + x8)) : Int).toNat (Int.tmod (wrap64 ((wrap64 ((rd x5 (wrap64 (x6 + x8))) + (wrap64 ((rd x0 x6) * t210)))) + x7)) 1000000000)) x6 (wrap64 (Int.tdiv (wrap64 ((wrap64 ((rd x5 (wrap64 (x6 + x8))) + (wrap64 ((rd x0 x6) * t210)))) + x7)) 1000000000)) (wrap64 (x8 + 1)))) else (none)) else (none)) else (none)) else (none)) else (dioramaref02_Times.l0 k x0 x1 x5 (wrap64 (x6 + 1))))
end
def dioramaref02_Times.f (k : Nat) (l0 : List Int) (l1 : List Int) : Option (List Int) := if 0 ≤ (wrap64 ((l0.length : Int) + (l1.length : Int))) then (if (wrap64 ((l0.length : Int) + (l1.length : Int)) : Int).toNat ≤ 35184372088832 then (dioramaref02_Times.l0 k l0 l1 (List.replicate (wrap64 ((l0.length : Int) + (l1.length : Int)) : Int).toNat 0) 0) else (none)) else (none)
set_option maxHeartbeats 8000000 in
set_option maxRecDepth 100000 in
theorem dioramaref02_Times.calls (k : Nat) (A0 : Option Addr) (c0 : Nat) (l0 : List Int) (A1 : Option Addr) (c1 : Nat) (l1 : List Int) (r : List Int) (w : World) (hr0 : Kd.C (Kd.int .i64) w A0 l0.length l0) (hc0 : l0.length ≤ c0) (hr1 : Kd.C (Kd.int .i64) w A1 l1.length l1) (hc1 : l1.length ≤ c1) (h : dioramaref02_Times.f k l0 l1 = some r) :
  Calls Try.prog 124 #[.slice A0 l0.length c0, .slice A1 l1.length c1] w fun e w' => ∃ v0_ : Value, e = .returned (v0_) ∧ Kd.R (Kd.int .i64) 3 w' w.heap.size (fun _ => True) v0_ r ∧ Below w.heap.size w w' := by
 have HR0 := Aside0.mk hr0; have HC0 := Aside0.mk hc0; clear hr0 hc0; have HR1 := Aside0.mk hr1; have HC1 := Aside0.mk hc1; clear hr1 hc1; have HB := Aside0.mk (Below.refl w.heap.size w); have H : (if 0 ≤ (wrap64 ((l0.length : Int) + (l1.length : Int))) then (if (wrap64 ((l0.length : Int) + (l1.length : Int)) : Int).toNat ≤ 35184372088832 then (dioramaref02_Times.l0 k l0 l1 (List.replicate (wrap64 ((l0.length : Int) + (l1.length : Int)) : Int).toNat 0) 0) else (none)) else (none)) = some r := h; clear h; obtain ⟨ji3, hji3⟩ : ∃ j_ : Int, (wrap64 ((l0.length : Int) + (l1.length : Int))) = j_ := ⟨_, rfl⟩; replace H : (if 0 ≤ (ji3) then (if (ji3 : Int).toNat ≤ 35184372088832 then (dioramaref02_Times.l0 k l0 l1 (List.replicate (ji3 : Int).toNat 0) 0) else (none)) else (none)) = some r := by first | (rw [hji3] at H; exact H) | (simp only [hji3] at H ⊢; exact H)
 have hji3w : (IntKind.i64.wrap ((l0.length : Int) + (l1.length : Int))) = ji3 := (i64_w _).trans hji3
 by_cases c4 : 0 ≤ (ji3)
 ·rw [if_pos c4] at H; have c4b0 := eq_true c4; have c4b1 : decide (0 ≤ (ji3)) = true := decide_eq_true c4; clear c4
  by_cases c5 : (ji3 : Int).toNat ≤ 35184372088832
  ·rw [if_pos c5] at H; have c5b0 := eq_true c5; have c5b1 : decide ((ji3 : Int).toNat ≤ 35184372088832) = true := decide_eq_true c5; clear c5; obtain ⟨y198, hy198⟩ : ∃ y_ : List Int, y_ = (List.replicate (ji3 : Int).toNat 0) := ⟨_, rfl⟩; replace H : (dioramaref02_Times.l0 k l0 l1 y198 0) = some r := by first | (rw [hy198]; with_reducible exact H) | (have H2_ := (Option.bind_some _ _).symm.trans H; rw [hy198]; with_reducible exact H2_) | (have H2_ := (Option.bind_some _ _).symm.trans H; with_reducible exact H2_) | with_reducible exact H | (rw [hy198]; exact H) | exact H
   have Ny198 := Aside0.mk hy198; clear hy198; have H' := Aside0.mk H; clear H
   go_enter Try.func124, Try.ntmps124
   go_wp2_with (first | ((with_reducible refine gate_dst (N := 15) rfl ?_); refine Kd.R_make (Kd.int .i64) _ 3 rfl (N := 15) rfl 93 _ _ rfl ji3 rfl rfl Try.underlying93 (.int .i64 0) 8 info3 rfl (by decide) (by omega) 0 (ok := fun _ => True) (okp := fun _ => True) rfl (fun _ hk => hk) trivial (od) (Nat.le_trans (Nat.mul_le_mul_right _ (od : ji3.toNat ≤ 35184372088832)) (by omega)) (Below.refl _ _) (Nat.le_refl _) ?_; intro v199 w6 ho7 hb hg_ hnew_; clear hg_ hnew_; (first | rw [← Ny198.out] at ho7 | (simp only [Int.reduceToNat] at ho7; rw [← Ny198.out] at ho7)); have HO200 := Aside0.mk (Kd.R_lower ho7 sz); replace HB := bp hb; clear hb ho7))
   repeat (go_quiet (first | ((with_reducible refine gate_dst (N := 15) rfl ?_); refine Kd.R_make (Kd.int .i64) _ 3 rfl (N := 15) rfl 93 _ _ rfl ji3 rfl rfl Try.underlying93 (.int .i64 0) 8 info3 rfl (by decide) (by omega) 0 (ok := fun _ => True) (okp := fun _ => True) rfl (fun _ hk => hk) trivial (od) (Nat.le_trans (Nat.mul_le_mul_right _ (od : ji3.toNat ≤ 35184372088832)) (by omega)) (Below.refl _ _) (Nat.le_refl _) ?_; intro v199 w6 ho7 hb hg_ hnew_; clear hg_ hnew_; (first | rw [← Ny198.out] at ho7 | (simp only [Int.reduceToNat] at ho7; rw [← Ny198.out] at ho7)); have n0_ := Aside0.mk (Kd.R_lower ho7 sz); have n1_ := bp hb; clear HB; have HO200 := n0_; have HB := n1_; clear n0_ n1_; clear hb ho7)); try go_wp2_with (first | ((with_reducible refine gate_dst (N := 15) rfl ?_); refine Kd.R_make (Kd.int .i64) _ 3 rfl (N := 15) rfl 93 _ _ rfl ji3 rfl rfl Try.underlying93 (.int .i64 0) 8 info3 rfl (by decide) (by omega) 0 (ok := fun _ => True) (okp := fun _ => True) rfl (fun _ hk => hk) trivial (od) (Nat.le_trans (Nat.mul_le_mul_right _ (od : ji3.toNat ≤ 35184372088832)) (by omega)) (Below.refl _ _) (Nat.le_refl _) ?_; intro v199 w6 ho7 hb hg_ hnew_; clear hg_ hnew_; (first | rw [← Ny198.out] at ho7 | (simp only [Int.reduceToNat] at ho7; rw [← Ny198.out] at ho7)); have HO200 := Aside0.mk (Kd.R_lower ho7 sz); replace HB := bp hb; clear hb ho7)))
   go_loopg [6] k (fun kq v6 w' => ∃ (x5_1 : List Int) (x6_1 : Int), v6 = .int .i64 x6_1 ∧ Aside0 (dioramaref02_Times.l0 kq l0 l1 x5_1 x6_1 = some r) ∧ Aside0 (kq ≤ k) ∧ Aside0 (Kd.R (Kd.int .i64) 3 w' w.heap.size (fun _ => True) v199 x5_1) ∧ Aside0 (Below w.heap.size w w'))
   case atStart => exact ⟨(y198), (0), jz, H', ⟨Nat.le_refl _⟩, ⟨rz HO200⟩, ⟨bz⟩⟩
   case round =>
    clear H'
    try clear c1
    try clear p2
    try clear c4
    try clear c4b0
    try clear c4b1
    try clear c5
    try clear c5b0
    try clear c5b1
    try clear p6
    obtain ⟨x5_1, x6_1, rfl, HA, HK1, HO_5, HB⟩ := hrel
    cases gk with
    | zero => exact absurd HA.out (by simp [dioramaref02_Times.l0])
    | succ k1 =>
     have H := HA.out; clear HA; simp only [dioramaref02_Times.l0] at H
     by_cases c8 : x6_1 < (l0.length : Int)
     ·rw [if_pos c8] at H; have c8b0 : decide (x6_1 < (l0.length : Int)) = true := decide_eq_true c8; clear c8; have H' := Aside0.mk H; clear H
      go_wp2
      repeat (go_quiet (fail); try go_wp2)
      go_loopg [7, 8] k1 (fun kq v7 v8 w' => ∃ (x5_2 : List Int) (x7_2 : Int) (x8_2 : Int), v7 = .int .i64 x7_2 ∧ v8 = .int .i64 x8_2 ∧ Aside0 (dioramaref02_Times.l1 kq l0 l1 x5_2 x6_1 x7_2 x8_2 = some r) ∧ Aside0 (kq ≤ k1) ∧ Aside0 (Kd.R (Kd.int .i64) 3 w' w.heap.size (fun _ => True) v199 x5_2) ∧ Aside0 (Below w.heap.size w w'))
      case atStart => exact ⟨(x5_1), (0), (0), jz, jz, H', ⟨Nat.le_refl _⟩, ⟨rz HO_5⟩, ⟨bz⟩⟩
      case round =>
       clear H'
       try clear c1
       try clear p2
       try clear c4
       try clear c4b0
       try clear c4b1
       try clear c5
       try clear c5b0
       try clear c5b1
       try clear p6
       try clear c8
       try clear c8b0
       try clear p2
       try clear p6
       obtain ⟨x5_2, x7_2, x8_2, rfl, rfl, HA, HK2, HO_5, HB⟩ := hrel
       cases gk with
       | zero => exact absurd HA.out (by simp [dioramaref02_Times.l1])
       | succ k2 =>
        have H := HA.out; clear HA; simp only [dioramaref02_Times.l1] at H
        by_cases c9 : x8_2 < (l1.length : Int)
        ·rw [if_pos c9] at H; have c9b0 : decide (x8_2 < (l1.length : Int)) = true := decide_eq_true c9; clear c9; obtain ⟨ji10, hji10⟩ : ∃ j_ : Int, (wrap64 (x6_1 + x8_2)) = j_ := ⟨_, rfl⟩; replace H : (if 0 ≤ (ji10) then (if (ji10) < (x5_2.length : Int) then (if 0 ≤ x6_1 then (if x6_1 < (l0.length : Int) then ((dioramaref02_digit.f l1 x8_2).bind fun t206 => (dioramaref02_Times.l1 k2 l0 l1 (x5_2.set ((ji10) : Int).toNat (Int.tmod (wrap64 ((wrap64 ((rd x5_2 (ji10)) + (wrap64 ((rd l0 x6_1) * t206)))) + x7_2)) 1000000000)) x6_1 (wrap64 (Int.tdiv (wrap64 ((wrap64 ((rd x5_2 (ji10)) + (wrap64 ((rd l0 x6_1) * t206)))) + x7_2)) 1000000000)) (wrap64 (x8_2 + 1)))) else (none)) else (none)) else (none)) else (none)) = some r := by first | (rw [hji10] at H; exact H) | (simp only [hji10] at H ⊢; exact H)
         have hji10w : (IntKind.i64.wrap (x6_1 + x8_2)) = ji10 := (i64_w _).trans hji10
         by_cases c11 : 0 ≤ (ji10)
         ·rw [if_pos c11] at H; have c11b0 : decide (0 ≤ (ji10)) = true := decide_eq_true c11; clear c11
          by_cases c12 : (ji10) < (x5_2.length : Int)
          ·rw [if_pos c12] at H; have c12b0 : decide ((ji10) < (x5_2.length : Int)) = true := decide_eq_true c12; clear c12
           by_cases c13 : 0 ≤ x6_1
           ·rw [if_pos c13] at H; have c13b0 : decide (0 ≤ x6_1) = true := decide_eq_true c13; clear c13
            by_cases c14 : x6_1 < (l0.length : Int)
            ·rw [if_pos c14] at H; have c14b0 : decide (x6_1 < (l0.length : Int)) = true := decide_eq_true c14; clear c14; obtain ⟨t206, A15, H⟩ := ob H; obtain ⟨y207, hy207⟩ : ∃ y_ : List Int, y_ = (x5_2.set ((ji10) : Int).toNat (Int.tmod (wrap64 ((wrap64 ((rd x5_2 (ji10)) + (wrap64 ((rd l0 x6_1) * t206)))) + x7_2)) 1000000000)) := ⟨_, rfl⟩; replace H : (dioramaref02_Times.l1 k2 l0 l1 y207 x6_1 (wrap64 (Int.tdiv (wrap64 ((wrap64 ((rd x5_2 (ji10)) + (wrap64 ((rd l0 x6_1) * t206)))) + x7_2)) 1000000000)) (wrap64 (x8_2 + 1))) = some r := by first | (rw [hy207]; with_reducible exact H) | (have H2_ := (Option.bind_some _ _).symm.trans H; rw [hy207]; with_reducible exact H2_) | (have H2_ := (Option.bind_some _ _).symm.trans H; with_reducible exact H2_) | with_reducible exact H | (rw [hy207]; exact H) | exact H
             have Ny207 := Aside0.mk hy207; clear hy207; have H' := Aside0.mk H; clear H; obtain ⟨Ao17, co17, eo17⟩ := Kd.R_slice HO_5.out; subst eo17; have p204 : 0 ≤ ((ji10) : Int) := od; have q204 : (ji10) < (x5_2.length : Int) := od; obtain ⟨ad204, e204, hx204_0⟩ := Kd.at_int (Kd.R_reads' HO_5.out).2.2 (ji10) p204 q204
             cases e204
             replace p204 := eq_true p204; replace q204 := eq_true q204; have p205 : 0 ≤ (x6_1 : Int) := od; have q205 : x6_1 < (l0.length : Int) := od; obtain ⟨ad205, e205, hx205_0⟩ := Kd.at_int HR0.out x6_1 p205 q205
             cases e205
             replace hx205_0 := cl HB hx205_0; replace p205 := eq_true p205; replace q205 := eq_true q205
             go_wp2_with (first | (go_at_call 155; (with_reducible refine (dioramaref02_digit.calls _ _ l1 x8_2 t206 _ ?side1 ?side2 A15.out).mono ?_); (case side1 => exact cz HR1); (case side2 => exact HC1.out); rintro e w' ⟨rfl, ⟨nd, rfl⟩⟩; (try first | exact ⟨rfl, _, World.drewN_drewN _ _ _⟩ | exact ⟨rfl, _, Eq.trans (World.drewN_drewN _ _ _) (congrArg (World.drewN _) (Nat.add_assoc _ _ _))⟩); have p16 : 0 ≤ ((ji10) : Int) := od; have q16 : ((ji10) : Int) < ((x5_2.length : Int) : Int) := od; obtain ⟨go16, co16, eo16, gb16, gl16, cl16, HG16⟩ := Kd.R_form HO_5.out (by omega); (first | cases eo16 | (injection eo16 with ea_ en_ ec_; (first | subst ea_ | (injection ea_ with ea_; subst ea_)); subst ec_; clear en_)); have GB16 := Aside0.mk gb16; have GG16 := Aside0.mk HG16; clear gb16 gl16 HG16; (first | simp only [add_plain] at hx204_0 | skip); obtain ⟨hx16_0, hf16_0⟩ := Kd.R_celln 0 HO_5.out ((ji10) : Int) p16 q16; replace p16 := eq_true p16; replace q16 := eq_true q16; obtain ⟨hy18_, hz18_⟩ := Kd.R_celln 0 HO_5.out ((ji10) : Int) (od) (od); have HP18 := Kd.R_putg HO_5.out ((ji10) : Int) (Int.tmod (wrap64 ((wrap64 ((rd x5_2 (ji10)) + (wrap64 ((rd l0 x6_1) * t206)))) + x7_2)) 1000000000)) | ((with_reducible refine gate_store (t := 3) (p := 55) rfl ?_); (try (rw [drewN_self wr]; generalize hq_ : World.drewN wr _ = wr; have n0_ := Aside0.mk (Kd.R_at hq_ HO_5.out); have n1_ := Aside0.mk (below_at hq_ HB.out); clear hq_ HO_5 HB; have HO_5 := n0_; have HB := n1_; clear n0_ n1_; (try (obtain ⟨hy18_, hz18_⟩ := Kd.R_celln 0 HO_5.out ((ji10) : Int) (od) (od))); (try (have HP18 := Kd.R_putg HO_5.out ((ji10) : Int) (Int.tmod (wrap64 ((wrap64 ((rd x5_2 (ji10)) + (wrap64 ((rd l0 x6_1) * t206)))) + x7_2)) 1000000000))))); refine store_event (t := 3) (p := 55) (v := ?vo_w19) (w1 := (wr.setCell ⟨go16, ((ji10) : Int).toNat, none⟩ (.int .i64 (Int.tmod (wrap64 ((wrap64 ((rd x5_2 (ji10)) + (wrap64 ((rd l0 x6_1) * t206)))) + x7_2)) 1000000000)))) ?hg ?ho ?hn ?hr ?_; (case ho => rfl); (case hg => rfl); (case hn => rfl); (case hr => first | (go_simp; done) | (go_simp; rfl)); intro w19 hw; have hg : wr.grownBy w19 (some go16) := (by rw [hw]; exact HP18.2); have hp_ : Kd.R (Kd.int .i64) 3 w19 w.heap.size (fun _ => True) (.slice (some ⟨go16, 0, none⟩) x5_2.length co17) y207 := (by rw [hw, Ny207.out]; exact HP18.1); clear HP18; replace HO_5 := Aside0.mk (hp_); replace HB := Aside0.mk ((by rw [hw]; exact below_set (HB.out) GB16.out : Below w.heap.size w w19)); clear hg hw hp_))
             repeat (go_quiet (first | (go_at_call 155; (with_reducible refine (dioramaref02_digit.calls _ _ l1 x8_2 t206 _ ?side1 ?side2 A15.out).mono ?_); (case side1 => exact cz HR1); (case side2 => exact HC1.out); rintro e w' ⟨rfl, ⟨nd, rfl⟩⟩; (try first | exact ⟨rfl, _, World.drewN_drewN _ _ _⟩ | exact ⟨rfl, _, Eq.trans (World.drewN_drewN _ _ _) (congrArg (World.drewN _) (Nat.add_assoc _ _ _))⟩); have p16 : 0 ≤ ((ji10) : Int) := od; have q16 : ((ji10) : Int) < ((x5_2.length : Int) : Int) := od; obtain ⟨go16, co16, eo16, gb16, gl16, cl16, HG16⟩ := Kd.R_form HO_5.out (by omega); (first | cases eo16 | (injection eo16 with ea_ en_ ec_; (first | subst ea_ | (injection ea_ with ea_; subst ea_)); subst ec_; clear en_)); have GB16 := Aside0.mk gb16; have GG16 := Aside0.mk HG16; clear gb16 gl16 HG16; (first | simp only [add_plain] at hx204_0 | skip); obtain ⟨hx16_0, hf16_0⟩ := Kd.R_celln 0 HO_5.out ((ji10) : Int) p16 q16; replace p16 := eq_true p16; replace q16 := eq_true q16; obtain ⟨hy18_, hz18_⟩ := Kd.R_celln 0 HO_5.out ((ji10) : Int) (od) (od); have HP18 := Kd.R_putg HO_5.out ((ji10) : Int) (Int.tmod (wrap64 ((wrap64 ((rd x5_2 (ji10)) + (wrap64 ((rd l0 x6_1) * t206)))) + x7_2)) 1000000000)) | ((with_reducible refine gate_store (t := 3) (p := 55) rfl ?_); (try (rw [drewN_self wr]; generalize hq_ : World.drewN wr _ = wr; have n0_ := Aside0.mk (Kd.R_at hq_ HO_5.out); have n1_ := Aside0.mk (below_at hq_ HB.out); clear hq_ HO_5 HB; have HO_5 := n0_; have HB := n1_; clear n0_ n1_; (try (obtain ⟨hy18_, hz18_⟩ := Kd.R_celln 0 HO_5.out ((ji10) : Int) (od) (od))); (try (have HP18 := Kd.R_putg HO_5.out ((ji10) : Int) (Int.tmod (wrap64 ((wrap64 ((rd x5_2 (ji10)) + (wrap64 ((rd l0 x6_1) * t206)))) + x7_2)) 1000000000))))); refine store_event (t := 3) (p := 55) (v := ?vo_w19) (w1 := (wr.setCell ⟨go16, ((ji10) : Int).toNat, none⟩ (.int .i64 (Int.tmod (wrap64 ((wrap64 ((rd x5_2 (ji10)) + (wrap64 ((rd l0 x6_1) * t206)))) + x7_2)) 1000000000)))) ?hg ?ho ?hn ?hr ?_; (case ho => rfl); (case hg => rfl); (case hn => rfl); (case hr => first | (go_simp; done) | (go_simp; rfl)); intro w19 hw; have hg : wr.grownBy w19 (some go16) := (by rw [hw]; exact HP18.2); have hp_ : Kd.R (Kd.int .i64) 3 w19 w.heap.size (fun _ => True) (.slice (some ⟨go16, 0, none⟩) x5_2.length co17) y207 := (by rw [hw, Ny207.out]; exact HP18.1); clear HP18; have n0_ := Aside0.mk (hp_); have n1_ := Aside0.mk ((by rw [hw]; exact below_set (HB.out) GB16.out : Below w.heap.size w w19)); clear HO_5; clear HB; have HO_5 := n0_; have HB := n1_; clear n0_ n1_; clear hg hw hp_)); try go_wp2_with (first | (go_at_call 155; (with_reducible refine (dioramaref02_digit.calls _ _ l1 x8_2 t206 _ ?side1 ?side2 A15.out).mono ?_); (case side1 => exact cz HR1); (case side2 => exact HC1.out); rintro e w' ⟨rfl, ⟨nd, rfl⟩⟩; (try first | exact ⟨rfl, _, World.drewN_drewN _ _ _⟩ | exact ⟨rfl, _, Eq.trans (World.drewN_drewN _ _ _) (congrArg (World.drewN _) (Nat.add_assoc _ _ _))⟩); have p16 : 0 ≤ ((ji10) : Int) := od; have q16 : ((ji10) : Int) < ((x5_2.length : Int) : Int) := od; obtain ⟨go16, co16, eo16, gb16, gl16, cl16, HG16⟩ := Kd.R_form HO_5.out (by omega); (first | cases eo16 | (injection eo16 with ea_ en_ ec_; (first | subst ea_ | (injection ea_ with ea_; subst ea_)); subst ec_; clear en_)); have GB16 := Aside0.mk gb16; have GG16 := Aside0.mk HG16; clear gb16 gl16 HG16; (first | simp only [add_plain] at hx204_0 | skip); obtain ⟨hx16_0, hf16_0⟩ := Kd.R_celln 0 HO_5.out ((ji10) : Int) p16 q16; replace p16 := eq_true p16; replace q16 := eq_true q16; obtain ⟨hy18_, hz18_⟩ := Kd.R_celln 0 HO_5.out ((ji10) : Int) (od) (od); have HP18 := Kd.R_putg HO_5.out ((ji10) : Int) (Int.tmod (wrap64 ((wrap64 ((rd x5_2 (ji10)) + (wrap64 ((rd l0 x6_1) * t206)))) + x7_2)) 1000000000)) | ((with_reducible refine gate_store (t := 3) (p := 55) rfl ?_); (try (rw [drewN_self wr]; generalize hq_ : World.drewN wr _ = wr; have n0_ := Aside0.mk (Kd.R_at hq_ HO_5.out); have n1_ := Aside0.mk (below_at hq_ HB.out); clear hq_ HO_5 HB; have HO_5 := n0_; have HB := n1_; clear n0_ n1_; (try (obtain ⟨hy18_, hz18_⟩ := Kd.R_celln 0 HO_5.out ((ji10) : Int) (od) (od))); (try (have HP18 := Kd.R_putg HO_5.out ((ji10) : Int) (Int.tmod (wrap64 ((wrap64 ((rd x5_2 (ji10)) + (wrap64 ((rd l0 x6_1) * t206)))) + x7_2)) 1000000000))))); refine store_event (t := 3) (p := 55) (v := ?vo_w19) (w1 := (wr.setCell ⟨go16, ((ji10) : Int).toNat, none⟩ (.int .i64 (Int.tmod (wrap64 ((wrap64 ((rd x5_2 (ji10)) + (wrap64 ((rd l0 x6_1) * t206)))) + x7_2)) 1000000000)))) ?hg ?ho ?hn ?hr ?_; (case ho => rfl); (case hg => rfl); (case hn => rfl); (case hr => first | (go_simp; done) | (go_simp; rfl)); intro w19 hw; have hg : wr.grownBy w19 (some go16) := (by rw [hw]; exact HP18.2); have hp_ : Kd.R (Kd.int .i64) 3 w19 w.heap.size (fun _ => True) (.slice (some ⟨go16, 0, none⟩) x5_2.length co17) y207 := (by rw [hw, Ny207.out]; exact HP18.1); clear HP18; replace HO_5 := Aside0.mk (hp_); replace HB := Aside0.mk ((by rw [hw]; exact below_set (HB.out) GB16.out : Below w.heap.size w w19)); clear hg hw hp_)))
             go_roundg k2
             case measure => have := HK1.out; have := HK2.out; omega
             case rel => exact ⟨(y207), (wrap64 (Int.tdiv (wrap64 ((wrap64 ((rd x5_2 (ji10)) + (wrap64 ((rd l0 x6_1) * t206)))) + x7_2)) 1000000000)), (wrap64 (x8_2 + 1)), (by first | rfl | (simp; done) | (simp only [← hji10] <;> (first | rfl | simp)) | (simp [*]; done)), jz, H', ⟨by have := HK1.out; have := HK2.out; omega⟩, ⟨rz HO_5⟩, ⟨bz⟩⟩
            ·rw [if_neg c14] at H
             exact absurd H (by simp)
           ·rw [if_neg c13] at H
            exact absurd H (by simp)
          ·rw [if_neg c12] at H
           exact absurd H (by simp)
         ·rw [if_neg c11] at H
          exact absurd H (by simp)
        ·rw [if_neg c9] at H; have c9b0 : decide (x8_2 < (l1.length : Int)) = false := decide_eq_false c9; clear c9
         by_cases c20 : x7_2 > 0
         ·rw [if_pos c20] at H; have c20b0 : decide (0 < x7_2) = true := decide_eq_true c20; clear c20; obtain ⟨ji21, hji21⟩ : ∃ j_ : Int, (wrap64 (x6_1 + x8_2)) = j_ := ⟨_, rfl⟩; replace H : (if 0 ≤ (ji21) then (if (ji21) < (x5_2.length : Int) then (if 0 ≤ x6_1 then (if x6_1 < (l0.length : Int) then ((dioramaref02_digit.f l1 x8_2).bind fun t210 => (dioramaref02_Times.l1 k2 l0 l1 (x5_2.set ((ji21) : Int).toNat (Int.tmod (wrap64 ((wrap64 ((rd x5_2 (ji21)) + (wrap64 ((rd l0 x6_1) * t210)))) + x7_2)) 1000000000)) x6_1 (wrap64 (Int.tdiv (wrap64 ((wrap64 ((rd x5_2 (ji21)) + (wrap64 ((rd l0 x6_1) * t210)))) + x7_2)) 1000000000)) (wrap64 (x8_2 + 1)))) else (none)) else (none)) else (none)) else (none)) = some r := by first | (rw [hji21] at H; exact H) | (simp only [hji21] at H ⊢; exact H)
          have hji21w : (IntKind.i64.wrap (x6_1 + x8_2)) = ji21 := (i64_w _).trans hji21
          by_cases c22 : 0 ≤ (ji21)
          ·rw [if_pos c22] at H; have c22b0 : decide (0 ≤ (ji21)) = true := decide_eq_true c22; clear c22
           by_cases c23 : (ji21) < (x5_2.length : Int)
           ·rw [if_pos c23] at H; have c23b0 : decide ((ji21) < (x5_2.length : Int)) = true := decide_eq_true c23; clear c23
            by_cases c24 : 0 ≤ x6_1
            ·rw [if_pos c24] at H; have c24b0 : decide (0 ≤ x6_1) = true := decide_eq_true c24; clear c24
             by_cases c25 : x6_1 < (l0.length : Int)
             ·rw [if_pos c25] at H; have c25b0 : decide (x6_1 < (l0.length : Int)) = true := decide_eq_true c25; clear c25; obtain ⟨t210, A26, H⟩ := ob H; obtain ⟨y211, hy211⟩ : ∃ y_ : List Int, y_ = (x5_2.set ((ji21) : Int).toNat (Int.tmod (wrap64 ((wrap64 ((rd x5_2 (ji21)) + (wrap64 ((rd l0 x6_1) * t210)))) + x7_2)) 1000000000)) := ⟨_, rfl⟩; replace H : (dioramaref02_Times.l1 k2 l0 l1 y211 x6_1 (wrap64 (Int.tdiv (wrap64 ((wrap64 ((rd x5_2 (ji21)) + (wrap64 ((rd l0 x6_1) * t210)))) + x7_2)) 1000000000)) (wrap64 (x8_2 + 1))) = some r := by first | (rw [hy211]; with_reducible exact H) | (have H2_ := (Option.bind_some _ _).symm.trans H; rw [hy211]; with_reducible exact H2_) | (have H2_ := (Option.bind_some _ _).symm.trans H; with_reducible exact H2_) | with_reducible exact H | (rw [hy211]; exact H) | exact H
              have Ny211 := Aside0.mk hy211; clear hy211; have H' := Aside0.mk H; clear H; obtain ⟨Ao28, co28, eo28⟩ := Kd.R_slice HO_5.out; subst eo28; have p208 : 0 ≤ ((ji21) : Int) := od; have q208 : (ji21) < (x5_2.length : Int) := od; obtain ⟨ad208, e208, hx208_0⟩ := Kd.at_int (Kd.R_reads' HO_5.out).2.2 (ji21) p208 q208
              cases e208
              replace p208 := eq_true p208; replace q208 := eq_true q208; have p209 : 0 ≤ (x6_1 : Int) := od; have q209 : x6_1 < (l0.length : Int) := od; obtain ⟨ad209, e209, hx209_0⟩ := Kd.at_int HR0.out x6_1 p209 q209
              cases e209
              replace hx209_0 := cl HB hx209_0; replace p209 := eq_true p209; replace q209 := eq_true q209
              go_wp2_with (first | (go_at_call 155; (with_reducible refine (dioramaref02_digit.calls _ _ l1 x8_2 t210 _ ?side1 ?side2 A26.out).mono ?_); (case side1 => exact cz HR1); (case side2 => exact HC1.out); rintro e w' ⟨rfl, ⟨nd, rfl⟩⟩; (try first | exact ⟨rfl, _, World.drewN_drewN _ _ _⟩ | exact ⟨rfl, _, Eq.trans (World.drewN_drewN _ _ _) (congrArg (World.drewN _) (Nat.add_assoc _ _ _))⟩); have p27 : 0 ≤ ((ji21) : Int) := od; have q27 : ((ji21) : Int) < ((x5_2.length : Int) : Int) := od; obtain ⟨go27, co27, eo27, gb27, gl27, cl27, HG27⟩ := Kd.R_form HO_5.out (by omega); (first | cases eo27 | (injection eo27 with ea_ en_ ec_; (first | subst ea_ | (injection ea_ with ea_; subst ea_)); subst ec_; clear en_)); have GB27 := Aside0.mk gb27; have GG27 := Aside0.mk HG27; clear gb27 gl27 HG27; (first | simp only [add_plain] at hx208_0 | skip); obtain ⟨hx27_0, hf27_0⟩ := Kd.R_celln 0 HO_5.out ((ji21) : Int) p27 q27; replace p27 := eq_true p27; replace q27 := eq_true q27; obtain ⟨hy29_, hz29_⟩ := Kd.R_celln 0 HO_5.out ((ji21) : Int) (od) (od); have HP29 := Kd.R_putg HO_5.out ((ji21) : Int) (Int.tmod (wrap64 ((wrap64 ((rd x5_2 (ji21)) + (wrap64 ((rd l0 x6_1) * t210)))) + x7_2)) 1000000000)) | ((with_reducible refine gate_store (t := 3) (p := 55) rfl ?_); (try (rw [drewN_self wr]; generalize hq_ : World.drewN wr _ = wr; have n0_ := Aside0.mk (Kd.R_at hq_ HO_5.out); have n1_ := Aside0.mk (below_at hq_ HB.out); clear hq_ HO_5 HB; have HO_5 := n0_; have HB := n1_; clear n0_ n1_; (try (obtain ⟨hy29_, hz29_⟩ := Kd.R_celln 0 HO_5.out ((ji21) : Int) (od) (od))); (try (have HP29 := Kd.R_putg HO_5.out ((ji21) : Int) (Int.tmod (wrap64 ((wrap64 ((rd x5_2 (ji21)) + (wrap64 ((rd l0 x6_1) * t210)))) + x7_2)) 1000000000))))); refine store_event (t := 3) (p := 55) (v := ?vo_w30) (w1 := (wr.setCell ⟨go27, ((ji21) : Int).toNat, none⟩ (.int .i64 (Int.tmod (wrap64 ((wrap64 ((rd x5_2 (ji21)) + (wrap64 ((rd l0 x6_1) * t210)))) + x7_2)) 1000000000)))) ?hg ?ho ?hn ?hr ?_; (case ho => rfl); (case hg => rfl); (case hn => rfl); (case hr => first | (go_simp; done) | (go_simp; rfl)); intro w30 hw; have hg : wr.grownBy w30 (some go27) := (by rw [hw]; exact HP29.2); have hp_ : Kd.R (Kd.int .i64) 3 w30 w.heap.size (fun _ => True) (.slice (some ⟨go27, 0, none⟩) x5_2.length co28) y211 := (by rw [hw, Ny211.out]; exact HP29.1); clear HP29; replace HO_5 := Aside0.mk (hp_); replace HB := Aside0.mk ((by rw [hw]; exact below_set (HB.out) GB27.out : Below w.heap.size w w30)); clear hg hw hp_))
              repeat (go_quiet (first | (go_at_call 155; (with_reducible refine (dioramaref02_digit.calls _ _ l1 x8_2 t210 _ ?side1 ?side2 A26.out).mono ?_); (case side1 => exact cz HR1); (case side2 => exact HC1.out); rintro e w' ⟨rfl, ⟨nd, rfl⟩⟩; (try first | exact ⟨rfl, _, World.drewN_drewN _ _ _⟩ | exact ⟨rfl, _, Eq.trans (World.drewN_drewN _ _ _) (congrArg (World.drewN _) (Nat.add_assoc _ _ _))⟩); have p27 : 0 ≤ ((ji21) : Int) := od; have q27 : ((ji21) : Int) < ((x5_2.length : Int) : Int) := od; obtain ⟨go27, co27, eo27, gb27, gl27, cl27, HG27⟩ := Kd.R_form HO_5.out (by omega); (first | cases eo27 | (injection eo27 with ea_ en_ ec_; (first | subst ea_ | (injection ea_ with ea_; subst ea_)); subst ec_; clear en_)); have GB27 := Aside0.mk gb27; have GG27 := Aside0.mk HG27; clear gb27 gl27 HG27; (first | simp only [add_plain] at hx208_0 | skip); obtain ⟨hx27_0, hf27_0⟩ := Kd.R_celln 0 HO_5.out ((ji21) : Int) p27 q27; replace p27 := eq_true p27; replace q27 := eq_true q27; obtain ⟨hy29_, hz29_⟩ := Kd.R_celln 0 HO_5.out ((ji21) : Int) (od) (od); have HP29 := Kd.R_putg HO_5.out ((ji21) : Int) (Int.tmod (wrap64 ((wrap64 ((rd x5_2 (ji21)) + (wrap64 ((rd l0 x6_1) * t210)))) + x7_2)) 1000000000)) | ((with_reducible refine gate_store (t := 3) (p := 55) rfl ?_); (try (rw [drewN_self wr]; generalize hq_ : World.drewN wr _ = wr; have n0_ := Aside0.mk (Kd.R_at hq_ HO_5.out); have n1_ := Aside0.mk (below_at hq_ HB.out); clear hq_ HO_5 HB; have HO_5 := n0_; have HB := n1_; clear n0_ n1_; (try (obtain ⟨hy29_, hz29_⟩ := Kd.R_celln 0 HO_5.out ((ji21) : Int) (od) (od))); (try (have HP29 := Kd.R_putg HO_5.out ((ji21) : Int) (Int.tmod (wrap64 ((wrap64 ((rd x5_2 (ji21)) + (wrap64 ((rd l0 x6_1) * t210)))) + x7_2)) 1000000000))))); refine store_event (t := 3) (p := 55) (v := ?vo_w30) (w1 := (wr.setCell ⟨go27, ((ji21) : Int).toNat, none⟩ (.int .i64 (Int.tmod (wrap64 ((wrap64 ((rd x5_2 (ji21)) + (wrap64 ((rd l0 x6_1) * t210)))) + x7_2)) 1000000000)))) ?hg ?ho ?hn ?hr ?_; (case ho => rfl); (case hg => rfl); (case hn => rfl); (case hr => first | (go_simp; done) | (go_simp; rfl)); intro w30 hw; have hg : wr.grownBy w30 (some go27) := (by rw [hw]; exact HP29.2); have hp_ : Kd.R (Kd.int .i64) 3 w30 w.heap.size (fun _ => True) (.slice (some ⟨go27, 0, none⟩) x5_2.length co28) y211 := (by rw [hw, Ny211.out]; exact HP29.1); clear HP29; have n0_ := Aside0.mk (hp_); have n1_ := Aside0.mk ((by rw [hw]; exact below_set (HB.out) GB27.out : Below w.heap.size w w30)); clear HO_5; clear HB; have HO_5 := n0_; have HB := n1_; clear n0_ n1_; clear hg hw hp_)); try go_wp2_with (first | (go_at_call 155; (with_reducible refine (dioramaref02_digit.calls _ _ l1 x8_2 t210 _ ?side1 ?side2 A26.out).mono ?_); (case side1 => exact cz HR1); (case side2 => exact HC1.out); rintro e w' ⟨rfl, ⟨nd, rfl⟩⟩; (try first | exact ⟨rfl, _, World.drewN_drewN _ _ _⟩ | exact ⟨rfl, _, Eq.trans (World.drewN_drewN _ _ _) (congrArg (World.drewN _) (Nat.add_assoc _ _ _))⟩); have p27 : 0 ≤ ((ji21) : Int) := od; have q27 : ((ji21) : Int) < ((x5_2.length : Int) : Int) := od; obtain ⟨go27, co27, eo27, gb27, gl27, cl27, HG27⟩ := Kd.R_form HO_5.out (by omega); (first | cases eo27 | (injection eo27 with ea_ en_ ec_; (first | subst ea_ | (injection ea_ with ea_; subst ea_)); subst ec_; clear en_)); have GB27 := Aside0.mk gb27; have GG27 := Aside0.mk HG27; clear gb27 gl27 HG27; (first | simp only [add_plain] at hx208_0 | skip); obtain ⟨hx27_0, hf27_0⟩ := Kd.R_celln 0 HO_5.out ((ji21) : Int) p27 q27; replace p27 := eq_true p27; replace q27 := eq_true q27; obtain ⟨hy29_, hz29_⟩ := Kd.R_celln 0 HO_5.out ((ji21) : Int) (od) (od); have HP29 := Kd.R_putg HO_5.out ((ji21) : Int) (Int.tmod (wrap64 ((wrap64 ((rd x5_2 (ji21)) + (wrap64 ((rd l0 x6_1) * t210)))) + x7_2)) 1000000000)) | ((with_reducible refine gate_store (t := 3) (p := 55) rfl ?_); (try (rw [drewN_self wr]; generalize hq_ : World.drewN wr _ = wr; have n0_ := Aside0.mk (Kd.R_at hq_ HO_5.out); have n1_ := Aside0.mk (below_at hq_ HB.out); clear hq_ HO_5 HB; have HO_5 := n0_; have HB := n1_; clear n0_ n1_; (try (obtain ⟨hy29_, hz29_⟩ := Kd.R_celln 0 HO_5.out ((ji21) : Int) (od) (od))); (try (have HP29 := Kd.R_putg HO_5.out ((ji21) : Int) (Int.tmod (wrap64 ((wrap64 ((rd x5_2 (ji21)) + (wrap64 ((rd l0 x6_1) * t210)))) + x7_2)) 1000000000))))); refine store_event (t := 3) (p := 55) (v := ?vo_w30) (w1 := (wr.setCell ⟨go27, ((ji21) : Int).toNat, none⟩ (.int .i64 (Int.tmod (wrap64 ((wrap64 ((rd x5_2 (ji21)) + (wrap64 ((rd l0 x6_1) * t210)))) + x7_2)) 1000000000)))) ?hg ?ho ?hn ?hr ?_; (case ho => rfl); (case hg => rfl); (case hn => rfl); (case hr => first | (go_simp; done) | (go_simp; rfl)); intro w30 hw; have hg : wr.grownBy w30 (some go27) := (by rw [hw]; exact HP29.2); have hp_ : Kd.R (Kd.int .i64) 3 w30 w.heap.size (fun _ => True) (.slice (some ⟨go27, 0, none⟩) x5_2.length co28) y211 := (by rw [hw, Ny211.out]; exact HP29.1); clear HP29; replace HO_5 := Aside0.mk (hp_); replace HB := Aside0.mk ((by rw [hw]; exact below_set (HB.out) GB27.out : Below w.heap.size w w30)); clear hg hw hp_)))
              go_roundg k2
              case measure => have := HK1.out; have := HK2.out; omega
              case rel => exact ⟨(y211), (wrap64 (Int.tdiv (wrap64 ((wrap64 ((rd x5_2 (ji21)) + (wrap64 ((rd l0 x6_1) * t210)))) + x7_2)) 1000000000)), (wrap64 (x8_2 + 1)), (by first | rfl | (simp; done) | (simp only [← hji21] <;> (first | rfl | simp)) | (simp [*]; done)), jz, H', ⟨by have := HK1.out; have := HK2.out; omega⟩, ⟨rz HO_5⟩, ⟨bz⟩⟩
             ·rw [if_neg c25] at H
              exact absurd H (by simp)
            ·rw [if_neg c24] at H
             exact absurd H (by simp)
           ·rw [if_neg c23] at H
            exact absurd H (by simp)
          ·rw [if_neg c22] at H
           exact absurd H (by simp)
         ·rw [if_neg c20] at H; have c20b0 : decide (0 < x7_2) = false := decide_eq_false c20; clear c20; have H' := Aside0.mk H; clear H
          go_wp2
          repeat (go_quiet (fail); try go_wp2)
          go_roundg k2
          case measure => have := HK1.out; have := HK2.out; omega
          case rel => exact ⟨(x5_2), (wrap64 (x6_1 + 1)), jz, H', ⟨by have := HK1.out; have := HK2.out; omega⟩, ⟨rz HO_5⟩, ⟨bz⟩⟩
     ·rw [if_neg c8] at H; have c8b0 : decide (x6_1 < (l0.length : Int)) = false := decide_eq_false c8; clear c8; obtain ⟨t201, A31, H⟩ := ob H; obtain rfl := Option.some.inj H; obtain ⟨Ao32, co32, eo32⟩ := Kd.R_slice HO_5.out; subst eo32
      go_wp2_with (first | (go_at_call 154; (with_reducible refine (dioramaref02_trimmed.calls k1 (fun k_ => some k_ = (.slice Ao32 x5_1.length co32 : Value).ownBlock) (.slice Ao32 x5_1.length co32) x5_1 t201 w _ ?side1 ?side2 A31.out).mono ?_); (case side1 => repeat (first | (with_reducible first | exact HB.out | apply below_alloc | apply pw_below_drewN | apply below_drew1) | exact HB.out)); (case side2 => exact Kd.R_tight rfl HO_5.out); rintro e w33 ⟨v202, rfl, ho0, hb, hkp⟩; have HO203 := Aside0.mk (Kd.R_mono (ok' := fun k_ => True) ho0 (fun k_ hk_ => trivial)); replace HB := Aside0.mk (hb); clear HO_5; clear hb hkp ho0))
      repeat (go_quiet (first | (go_at_call 154; (with_reducible refine (dioramaref02_trimmed.calls k1 (fun k_ => some k_ = (.slice Ao32 x5_1.length co32 : Value).ownBlock) (.slice Ao32 x5_1.length co32) x5_1 t201 w _ ?side1 ?side2 A31.out).mono ?_); (case side1 => repeat (first | (with_reducible first | exact HB.out | apply below_alloc | apply pw_below_drewN | apply below_drew1) | exact HB.out)); (case side2 => exact Kd.R_tight rfl HO_5.out); rintro e w33 ⟨v202, rfl, ho0, hb, hkp⟩; have n0_ := Aside0.mk (Kd.R_mono (ok' := fun k_ => True) ho0 (fun k_ hk_ => trivial)); have n1_ := Aside0.mk (hb); clear HB; clear HO_5; have HO203 := n0_; have HB := n1_; clear n0_ n1_; (try clear hb); (try clear hkp); (try clear ho0))); try go_wp2_with (first | (go_at_call 154; (with_reducible refine (dioramaref02_trimmed.calls k1 (fun k_ => some k_ = (.slice Ao32 x5_1.length co32 : Value).ownBlock) (.slice Ao32 x5_1.length co32) x5_1 t201 w _ ?side1 ?side2 A31.out).mono ?_); (case side1 => repeat (first | (with_reducible first | exact HB.out | apply below_alloc | apply pw_below_drewN | apply below_drew1) | exact HB.out)); (case side2 => exact Kd.R_tight rfl HO_5.out); rintro e w33 ⟨v202, rfl, ho0, hb, hkp⟩; have HO203 := Aside0.mk (Kd.R_mono (ok' := fun k_ => True) ho0 (fun k_ hk_ => trivial)); replace HB := Aside0.mk (hb); clear HO_5; clear hb hkp; (try clear ho0))))
      go_ret
      exact ⟨_, by first | rfl | (simp [errW_none, errW_some] <;> rfl) | (simp only [← hji3]; first | rfl | (simp [errW_none, errW_some] <;> rfl)) | (simp [*, errW_none, errW_some] <;> rfl), by (with_reducible repeat (first | apply Kd.R_alloc | apply Kd.R_drewN | apply Kd.R_drew)); exact HO203.out, bz⟩
  ·rw [if_neg c5] at H
   exact absurd H (by simp)
 ·rw [if_neg c4] at H
  exact absurd H (by simp)
mutual
def dioramaref02_Plus.l0 : Nat → List Int → List Int → List Int → Int → Int → Option (List Int)
  | 0, _, _, _, _, _ => none
  | k + 1, x0, x1, x5, x6, x7 => if x7 < (x0.length : Int) then (dioramaref02_Plus.j1 k x0 x1 x5 x6 x7 true) else (if x7 < (x1.length : Int) then (dioramaref02_Plus.j1 k x0 x1 x5 x6 x7 true) else (dioramaref02_Plus.j1 k x0 x1 x5 x6 x7 (decide (x6 > 0))))
def dioramaref02_Plus.j1 : Nat → List Int → List Int → List Int → Int → Int → Bool → Option (List Int)
  | 0, _, _, _, _, _, _ => none
  | k + 1, x0, x1, x5, x6, x7, x22 => if x22 = true then ((dioramaref02_digit.f x0 x7).bind fun t212 => ((dioramaref02_digit.f x1 x7).bind fun t213 => (if x5.length < 17592186044416 then (dioramaref02_Plus.l0 k x0 x1 (x5 ++ [Int.tmod (wrap64 ((wrap64 (t212 + t213)) + x6)) 1000000000]) (wrap64 (Int.tdiv (wrap64 ((wrap64 (t212 + t213)) + x6)) 1000000000)) (wrap64 (x7 + 1))) else (none)))) else (some x5)
end
def dioramaref02_Plus.f (k : Nat) (l0 : List Int) (l1 : List Int) : Option (List Int) := dioramaref02_Plus.l0 k l0 l1 ([] : List Int) 0 0
set_option maxHeartbeats 8000000 in
set_option maxRecDepth 100000 in
theorem dioramaref02_Plus.calls (k : Nat) (A0 : Option Addr) (c0 : Nat) (l0 : List Int) (A1 : Option Addr) (c1 : Nat) (l1 : List Int) (r : List Int) (w : World) (hr0 : Kd.C (Kd.int .i64) w A0 l0.length l0) (hc0 : l0.length ≤ c0) (hr1 : Kd.C (Kd.int .i64) w A1 l1.length l1) (hc1 : l1.length ≤ c1) (h : dioramaref02_Plus.f k l0 l1 = some r) :
  Calls Try.prog 137 #[.slice A0 l0.length c0, .slice A1 l1.length c1] w fun e w' => ∃ v0_ : Value, e = .returned (v0_) ∧ Kd.R (Kd.int .i64) 3 w' w.heap.size (fun _ => True) v0_ r ∧ Below w.heap.size w w' := by
 have HR0 := Aside0.mk hr0; have HC0 := Aside0.mk hc0; clear hr0 hc0; have HR1 := Aside0.mk hr1; have HC1 := Aside0.mk hc1; clear hr1 hc1; have HB := Aside0.mk (Below.refl w.heap.size w); have H : (dioramaref02_Plus.l0 k l0 l1 ([] : List Int) 0 0) = some r := h; clear h; have H' := Aside0.mk H; clear H
 go_enter Try.func137, Try.ntmps137
 go_wp2
 go_loopg [5, 6, 7] k (fun kq v5 v6 v7 w' => ∃ (x5_1 : List Int) (x6_1 : Int) (x7_1 : Int), v6 = .int .i64 x6_1 ∧ v7 = .int .i64 x7_1 ∧ Aside0 (dioramaref02_Plus.l0 kq l0 l1 x5_1 x6_1 x7_1 = some r) ∧ Aside0 (kq ≤ k) ∧ Aside0 (Kd.R (Kd.int .i64) 3 w' w.heap.size (fun _ => True) v5 x5_1) ∧ Aside0 (Below w.heap.size w w'))
 case atStart => exact ⟨(([] : List Int)), (0), (0), jz, jz, H', ⟨Nat.le_refl _⟩, ⟨by first | exact Kd.R_nil _ _ _ _ _ | exact Kd.N_nil _ _ _ _ _ | exact Kd.V_nil _ _ _ _ _ | exact Kd.Q_nil _ _ _ _ _ | exact Kd.S_nil _ _ _ _ _⟩, ⟨bz⟩⟩
 case round =>
  clear H'
  try clear c1
  try clear p2
  obtain ⟨x5_1, x6_1, x7_1, rfl, rfl, HA, HK1, HO_5, HB⟩ := hrel
  cases gk with
  | zero => exact absurd HA.out (by simp [dioramaref02_Plus.l0])
  | succ k1 =>
   have H := HA.out; clear HA; simp only [dioramaref02_Plus.l0] at H; have HC3 := Aside0.mk H; clear H
   go_upto_region 4 with (fail)
   go_cut [22] (fun v22 wc => ∃ (kq : Nat) (x22_2 : Bool), v22 = .bool x22_2 ∧ Aside0 (dioramaref02_Plus.j1 kq l0 l1 x5_1 x6_1 x7_1 x22_2 = some r) ∧ Aside0 (kq ≤ k1) ∧ Aside0 (Kd.R (Kd.int .i64) 3 wc w.heap.size (fun _ => True) u5 x5_1) ∧ Aside0 (Below w.heap.size w wc))
   case first =>
    have H := HC3.out; clear HC3
    by_cases c4 : x7_1 < (l0.length : Int)
    ·rw [if_pos c4] at H; have c4b0 : decide (x7_1 < (l0.length : Int)) = true := decide_eq_true c4; clear c4
     (first | rw [c4b0] | (simp only [i64_w, i32_w]; rw [c4b0]) | skip)
     have H' := Aside0.mk H; clear H
     go_wp2
     go_meet
     case rel => exact ⟨_, (true), jz, H', ⟨by have := HK1.out; first | omega | exact Nat.le_refl _⟩, ⟨rz HO_5⟩, ⟨bz⟩⟩
    ·rw [if_neg c4] at H; have c4b0 : decide (x7_1 < (l0.length : Int)) = false := decide_eq_false c4; clear c4
     (first | rw [c4b0] | (simp only [i64_w, i32_w]; rw [c4b0]) | skip)
     by_cases c5 : x7_1 < (l1.length : Int)
     ·rw [if_pos c5] at H; have c5b0 : decide (x7_1 < (l1.length : Int)) = true := decide_eq_true c5; clear c5; have H' := Aside0.mk H; clear H
      go_wp2
      go_meet
      case rel => exact ⟨_, (true), jz, H', ⟨by have := HK1.out; first | omega | exact Nat.le_refl _⟩, ⟨rz HO_5⟩, ⟨bz⟩⟩
     ·rw [if_neg c5] at H; have c5b0 : decide (x7_1 < (l1.length : Int)) = false := decide_eq_false c5; clear c5; have H' := Aside0.mk H; clear H
      go_wp2
      go_meet
      case rel => exact ⟨_, (decide (x6_1 > 0)), jz, H', ⟨by have := HK1.out; first | omega | exact Nat.le_refl _⟩, ⟨rz HO_5⟩, ⟨bz⟩⟩
   case rest =>
    clear HC3
    try clear c1
    try clear p2
    try clear c4
    try clear c4b0
    try clear c5
    try clear c5b0
    try clear p2
    obtain ⟨kq, x22_2, rfl, HA, HJ2, HO_5, HB⟩ := hcut
    cases kq with
    | zero => exact absurd HA.out (by simp [dioramaref02_Plus.j1])
    | succ kj2 =>
     have H := HA.out; clear HA; simp only [dioramaref02_Plus.j1] at H
     by_cases c6 : x22_2 = true
     ·subst c6; rw [if_pos rfl] at H; obtain ⟨t212, A7, H⟩ := ob H; obtain ⟨t213, A8, H⟩ := ob H
      by_cases c9 : x5_1.length < 17592186044416
      ·rw [if_pos c9] at H; have LMc9 := Aside0.mk c9; clear c9; obtain ⟨y214, hy214⟩ : ∃ y_ : List Int, y_ = (x5_1 ++ [Int.tmod (wrap64 ((wrap64 (t212 + t213)) + x6_1)) 1000000000]) := ⟨_, rfl⟩; replace H : (dioramaref02_Plus.l0 kj2 l0 l1 y214 (wrap64 (Int.tdiv (wrap64 ((wrap64 (t212 + t213)) + x6_1)) 1000000000)) (wrap64 (x7_1 + 1))) = some r := by first | (rw [hy214]; with_reducible exact H) | (have H2_ := (Option.bind_some _ _).symm.trans H; rw [hy214]; with_reducible exact H2_) | (have H2_ := (Option.bind_some _ _).symm.trans H; with_reducible exact H2_) | with_reducible exact H | (rw [hy214]; exact H) | exact H
       have Ny214 := Aside0.mk hy214; clear hy214; have H' := Aside0.mk H; clear H
       go_wp2_with (first | ((with_reducible refine gate_callee (f := 155) rfl ?_); refine zC 27 Try.func155 #[.slice A0 l0.length c0, .int .i64 x7_1] ?_; (with_reducible refine (dioramaref02_digit.calls _ _ l0 x7_1 t212 _ ?side1 ?side2 A7.out).mono ?_); (case side1 => exact cz HR0); (case side2 => exact HC0.out); rintro e w' ⟨rfl, ⟨nd, rfl⟩⟩; refine ⟨_, rfl, ?_⟩) | ((with_reducible refine gate_callee (f := 155) rfl ?_); refine zC 30 Try.func155 #[.slice A1 l1.length c1, .int .i64 x7_1] ?_; (with_reducible refine (dioramaref02_digit.calls _ _ l1 x7_1 t213 _ ?side1 ?side2 A8.out).mono ?_); (case side1 => repeat (first | exact (Kd.C_below HR1.out bz) | (with_reducible refine Kd.C_alloc ?_ _) | (with_reducible refine Kd.C_drewN ?_ _) | (with_reducible refine Kd.C_drew ?_))); (case side2 => exact HC1.out); rintro e w' ⟨rfl, ⟨nd, rfl⟩⟩; refine ⟨_, rfl, ?_⟩) | ((with_reducible refine gate_builtin (b := .append) (xs := #[.tmp 34, .tmp 37]) rfl ?_); at_builtin; refine Kd.R_append (Kd.int .i64) (w0 := w) w.heap.size rfl (.tmp 34) (.tmp 37) 93 3 (.int .i64 0) 8 rfl Try.underlying93 info3 rfl (by decide) (by omega) u5 x5_1 (Int.tmod (wrap64 ((wrap64 (t212 + t213)) + x6_1)) 1000000000) [.int .i64 (Int.tmod (wrap64 ((wrap64 (t212 + t213)) + x6_1)) 1000000000)] (fun _ => True) (fun _ => False) rfl rfl ?aP (fun _ hk => hk.elim) ?aF ?aO ?aB ?aS ?aL ?_; (case aP => exact rfl); (case aB => exact bz); (case aF => exact (fun _ _ => trivial)); (case aO => exact (rz HO_5)); (case aS => exact sz); (case aL => have := LMc9.out; omega); intro v215 w10 ho hb hg hat; rw [← Ny214.out] at ho; replace HB := Aside0.mk (hb); have HO216 := Aside0.mk (ho); clear HO_5; clear ho hb hg hat))
       go_roundg kj2
       case measure => have := HK1.out; have := HJ2.out; omega
       case rel => exact ⟨(y214), (wrap64 (Int.tdiv (wrap64 ((wrap64 (t212 + t213)) + x6_1)) 1000000000)), (wrap64 (x7_1 + 1)), jz, jz, H', ⟨by have := HK1.out; have := HJ2.out; omega⟩, ⟨rz HO216⟩, ⟨bz⟩⟩
      ·rw [if_neg c9] at H
       exact absurd H (by simp)
     ·obtain rfl := bf c6; rw [if_neg (show ¬ (false = true) by decide)] at H; obtain rfl := Option.some.inj H
      go_wp2
      go_ret
      exact ⟨_, ez, by (with_reducible repeat (first | apply Kd.R_alloc | apply Kd.R_drewN | apply Kd.R_drew)); exact HO_5.out, bz⟩
end Go.Proofs.Ytpbhepdgamoiaaa.E

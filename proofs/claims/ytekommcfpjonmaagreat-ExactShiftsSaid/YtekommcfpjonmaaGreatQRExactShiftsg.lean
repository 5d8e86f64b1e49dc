/-
  exact's functions of whole numbers: what they compute, and the walks of the small ones. Fractions of package num: SetFrac brings two whole numbers to lowest terms. The rational number that two whole ones make. Times and spans of the program as rational numbers; the clean list as a plain value. Spans that come in, opened: a list of spans, a time.
-/
import Derived.Test.YtekommcfpjonmaaGreatQRExactShiftsb
import Derived.Test.YtekommcfpjonmaaGreatQRExactShiftsc
import Derived.Test.YtekommcfpjonmaaGreatQRExactShiftsd
import Derived.Test.YtekommcfpjonmaaGreatQRExactShiftse
import Derived.Test.YtekommcfpjonmaaGreatQRExactShiftsf
import Derived.Test.YtekommcfpjonmaaGreatQRExactShiftsa
import Derived.Test.YtekommcfpjonmaaGreatChecked
import Derived.Lib.SmallJoins
import Derived.ProofKit
import Derived.Deep.Slices
import Derived.Deep.Fields
import Derived.ChangeSame
namespace Go.Proofs.YtekommcfpjonmaaGreat.E
open Go.Proofs.YtekommcfpjonmaaGreat.Z Go.RowKit Go.Proofs.YtekommcfpjonmaaGreatW.PrintWords Go.Proofs.YtekommcfpjonmaaGreatW.PrintLast Go.Proofs.YtekommcfpjonmaaGreatW.PrintMore
attribute [local go_sem] max2_int min2_int max_two min_two max_three min_three max_four min_four
set_option linter.unusedVariables false
set_option linter.unusedSimpArgs false
mutual
def dioramaref02_Shift.j0 : Nat → List (S53) → Bool → Int → Int → Option ((List (S53)) × Int)
  | 0, _, _, _, _ => none
  | k + 1, x0, x18, x442000, x442001 => if x18 = true then (some (([] : List (S53)), 4)) else (dioramaref02_Shift.l0 k x0 ([] : List (S53)) 0 x442000 x442001)
def dioramaref02_Shift.l0 : Nat → List (S53) → List (S53) → Int → Int → Int → Option ((List (S53)) × Int)
  | 0, _, _, _, _, _ => none
  | k + 1, x0, x6, x7, x442000, x442001 => if x7 < (x0.length : Int) then (if 0 ≤ x7 then ((dioramaref02_Add.f k ((rd_T53 x0 x7).f0.f0) ((rd_T53 x0 x7).f0.f1) x442000 x442001).bind fun bt448 => (if bt448.2.2 = 0 then ((dioramaref02_Add.f k ((rd_T53 x0 x7).f1.f0) ((rd_T53 x0 x7).f1.f1) x442000 x442001).bind fun bt453 => (if bt453.2.2 = 0 then (if x6.length < 4398046511104 then (dioramaref02_Shift.l0 k x0 (x6 ++ [(⟨(⟨bt448.1, bt448.2.1⟩ : S24), (⟨bt453.1, bt453.2.1⟩ : S24)⟩ : S53)]) (wrap64 (x7 + 1)) x442000 x442001) else (none)) else (some (([] : List (S53)), bt453.2.2)))) else (some (([] : List (S53)), bt448.2.2)))) else (none)) else ((dioramaref02_joined.f k x6 ([] : List (S53)) 0).bind fun t444 => (some (t444, 0)))
end
def dioramaref02_Shift.f (k : Nat) (l0 : List (S53)) (a1_0 : Int) (a1_1 : Int) : Option ((List (S53)) × Int) := (dioramaref02_areSpans.f k l0).bind fun t442 => (if t442 = true then ((dioramaref02_Valid.f a1_0 a1_1).bind fun t443 => (dioramaref02_Shift.j0 k l0 (!t443) a1_0 a1_1)) else (dioramaref02_Shift.j0 k l0 true a1_0 a1_1))
set_option maxHeartbeats 8000000 in
set_option maxRecDepth 100000 in
theorem dioramaref02_Shift.calls (k : Nat) (A0 : Option Addr) (c0 : Nat) (l0 : List (S53)) (a1_0 : Int) (a1_1 : Int) (r1 : List (S53)) (r2 : Int) (w : World) (hr0 : Kd.C k53 w A0 l0.length l0) (hc0 : l0.length ≤ c0) (h : dioramaref02_Shift.f k l0 a1_0 a1_1 = some (r1, r2)) :
  Calls Tryz.prog 12 #[.slice A0 l0.length c0, .agg #[.int .i64 a1_0, .int .i64 a1_1]] w fun e w' => ∃ v0_ : Value, e = .returned (.tuple #[v0_, .int .i64 r2]) ∧ Kd.R k53 53 w' w.heap.size (fun _ => True) v0_ r1 ∧ Below w.heap.size w w' := by
 have hu24 := Tryz.underlying24; have hu53 := Tryz.underlying53; have HR0 := Aside0.mk hr0; have HC0 := Aside0.mk hc0; clear hr0 hc0; have HB := Aside0.mk (Below.refl w.heap.size w); have H : ((dioramaref02_areSpans.f k l0).bind fun t442 => (if t442 = true then ((dioramaref02_Valid.f a1_0 a1_1).bind fun t443 => (dioramaref02_Shift.j0 k l0 (!t443) a1_0 a1_1)) else (dioramaref02_Shift.j0 k l0 true a1_0 a1_1))) = some (r1, r2) := h
 clear h; have HC3 := Aside0.mk H; clear H
 go_enter Tryz.func12, Tryz.ntmps12
 go_upto_region 1 with (first | ((with_reducible refine gate_dst (N := 3) rfl ?_); refine zB 3 24 #[.int .i64 a1_0, .int .i64 a1_1] ?_; intro gb441 hg w4 hbox hb; have BK441 := Aside0.mk hbox; have GW441 := gz hg; have GE441 := gz hg; replace HB := bp hb; clear hb hbox hg))
 (try simp only [Act.put, List.setIfInBounds_toArray, List.set_cons_zero, List.set_cons_succ])
 go_cut [18] (fun v18 wc => ∃ (kq : Nat) (x18_2 : Bool), v18 = .bool x18_2 ∧ Aside0 (dioramaref02_Shift.j0 kq l0 x18_2 a1_0 a1_1 = some (r1, r2)) ∧ Aside0 (kq ≤ k) ∧ Aside0 (wc.heap[gb441]? = some (.cells #[.int .i64 a1_0, .int .i64 a1_1] 24 (0, 0))) ∧ Aside0 (Below w.heap.size w wc))
 case first =>
  have H := HC3.out; clear HC3; obtain ⟨t442, A5, H⟩ := ob H
  by_cases c6 : t442 = true
  ·subst c6; rw [if_pos rfl] at H; obtain ⟨t443, A7, H⟩ := ob H; have H' := Aside0.mk H; clear H
   go_wp2_with (first | ((with_reducible refine gate_callee (f := 41) rfl ?_); refine zC 12 Tryz.func41 #[.slice A0 l0.length c0] ?_; (with_reducible refine (dioramaref02_areSpans.calls k _ _ l0 true _ ?side1 ?side2 A5.out).mono ?_); (case side1 => exact cz HR0); (case side2 => exact HC0.out); rintro e w8 ⟨rfl, hb⟩; refine ⟨_, rfl, ?_⟩; replace BK441 := kb BK441 hb; replace HB := bp hb; clear hb; obtain ⟨hcz9_0, hcz9_1, hfz9_0, hfz9_1⟩ := xc2 BK441) | (go_at_call 42; (with_reducible refine (dioramaref02_Valid.calls a1_0 a1_1 t443 _ A7.out).mono ?_); rintro e w10 ⟨rfl, hb⟩; replace BK441 := kb BK441 hb; replace HB := bp hb; clear hb))
   go_meet
   case rel => exact ⟨_, (!t443), jz, H', ⟨by first | omega | exact Nat.le_refl _⟩, ⟨kz⟩, ⟨bz⟩⟩
  ·obtain rfl := bf c6; rw [if_neg (show ¬ (false = true) by decide)] at H; have H' := Aside0.mk H; clear H
   go_wp2_with (first | ((with_reducible refine gate_callee (f := 41) rfl ?_); refine zC 12 Tryz.func41 #[.slice A0 l0.length c0] ?_; (with_reducible refine (dioramaref02_areSpans.calls k _ _ l0 false _ ?side1 ?side2 A5.out).mono ?_); (case side1 => exact cz HR0); (case side2 => exact HC0.out); rintro e w11 ⟨rfl, hb⟩; refine ⟨_, rfl, ?_⟩; replace BK441 := kb BK441 hb; replace HB := bp hb; clear hb))
   go_meet
   case rel => exact ⟨_, (true), jz, H', ⟨by first | omega | exact Nat.le_refl _⟩, ⟨kz⟩, ⟨bz⟩⟩
 case rest =>
  clear HC3
  try clear c1
  try clear p2
  try clear c4
  try clear c6
  try clear hcz9_0
  try clear hcz9_1
  try clear hfz9_0
  try clear hfz9_1
  obtain ⟨kq, x18_2, rfl, HA, HJ2, BK441, HB⟩ := hcut
  cases kq with
  | zero => exact absurd HA.out (by simp [dioramaref02_Shift.j0])
  | succ kj2 =>
   have H := HA.out; clear HA; simp only [dioramaref02_Shift.j0] at H
   by_cases c12 : x18_2 = true
   ·subst c12; rw [if_pos rfl] at H; simp only [Option.some.injEq, Prod.mk.injEq] at H; obtain ⟨rfl, rfl⟩ := H
    go_wp2
    go_ret2
    exact ⟨_, ez, by first | exact Kd.R_nil _ _ _ _ _ | exact Kd.N_nil _ _ _ _ _ | exact Kd.V_nil _ _ _ _ _ | exact Kd.Q_nil _ _ _ _ _ | exact Kd.S_nil _ _ _ _ _, bz⟩
   ·obtain rfl := bf c12; rw [if_neg (show ¬ (false = true) by decide)] at H; have H' := Aside0.mk H; clear H
    go_wp2
    go_loopg [6, 7] kj2 (fun kq v6 v7 w' => ∃ (x6_2 : List (S53)) (x7_2 : Int), v7 = .int .i64 x7_2 ∧ Aside0 (dioramaref02_Shift.l0 kq l0 x6_2 x7_2 a1_0 a1_1 = some (r1, r2)) ∧ Aside0 (kq ≤ kj2) ∧ Aside0 (Kd.R k53 53 w' w.heap.size (fun _ => True) v6 x6_2) ∧ Aside0 (w'.heap[gb441]? = some (.cells #[.int .i64 a1_0, .int .i64 a1_1] 24 (0, 0))) ∧ Aside0 (Below w.heap.size w w'))
    case atStart => exact ⟨(([] : List (S53))), (0), jz, H', ⟨Nat.le_refl _⟩, ⟨by first | exact Kd.R_nil _ _ _ _ _ | exact Kd.N_nil _ _ _ _ _ | exact Kd.V_nil _ _ _ _ _ | exact Kd.Q_nil _ _ _ _ _ | exact Kd.S_nil _ _ _ _ _⟩, ⟨kz⟩, ⟨bz⟩⟩
    case round =>
     clear H'
     try clear c1
     try clear p2
     try clear c4
     try clear c6
     try clear c12
     try clear hcz9_0
     try clear hcz9_1
     try clear hfz9_0
     try clear hfz9_1
     try clear p2
     obtain ⟨x6_2, x7_2, rfl, HA, HK2, HO_6, BK441, HB⟩ := hrel
     cases gk with
     | zero => exact absurd HA.out (by simp [dioramaref02_Shift.l0])
     | succ k2 =>
      have H := HA.out; clear HA; simp only [dioramaref02_Shift.l0] at H
      by_cases c13 : x7_2 < (l0.length : Int)
      ·rw [if_pos c13] at H; have c13b0 : decide (x7_2 < (l0.length : Int)) = true := decide_eq_true c13; clear c13
       by_cases c14 : 0 ≤ x7_2
       ·rw [if_pos c14] at H; have c14b0 : decide (0 ≤ x7_2) = true := decide_eq_true c14; clear c14; obtain ⟨⟨t448, t449, t450⟩, A15, H⟩ := ob H
        (try dsimp only at H)
        by_cases c16 : t450 = 0
        ·rw [if_pos c16] at H; have c16b0 : (t450 == 0) = true := beq_iff_eq.mpr c16; have c16b1 : (t450 != 0) = false := bne_eq_false_iff_eq.mpr c16; clear c16; obtain ⟨⟨t453, t454, t455⟩, A17, H⟩ := ob H
         (try dsimp only at H)
         by_cases c18 : t455 = 0
         ·rw [if_pos c18] at H; have c18b0 : (t455 == 0) = true := beq_iff_eq.mpr c18; have c18b1 : (t455 != 0) = false := bne_eq_false_iff_eq.mpr c18; clear c18
          by_cases c19 : x6_2.length < 4398046511104
          ·rw [if_pos c19] at H; have LMc19 := Aside0.mk c19; clear c19; obtain ⟨y457, hy457⟩ : ∃ y_ : List (S53), y_ = (x6_2 ++ [(⟨(⟨t448, t449⟩ : S24), (⟨t453, t454⟩ : S24)⟩ : S53)]) := ⟨_, rfl⟩; replace H : (dioramaref02_Shift.l0 k2 l0 y457 (wrap64 (x7_2 + 1)) a1_0 a1_1) = some (r1, r2) := by first | (rw [hy457]; with_reducible exact H) | (have H2_ := (Option.bind_some _ _).symm.trans H; rw [hy457]; with_reducible exact H2_) | (have H2_ := (Option.bind_some _ _).symm.trans H; with_reducible exact H2_) | with_reducible exact H | (rw [hy457]; exact H) | exact H
           have Ny457 := Aside0.mk hy457; clear hy457; have H' := Aside0.mk H; clear H
           try go_wp2
           replace HO_6 := Aside0.mk (Kd.R_drew HO_6.out); replace BK441 := Aside0.mk (blk_drew BK441.out); replace HB := Aside0.mk (below_drew1 HB.out); have p447 : 0 ≤ (x7_2 : Int) := od; have q447 : x7_2 < (l0.length : Int) := od; obtain ⟨ad447, e447, hx447_0, hx447_1, hx447_2, hx447_3⟩ := at_T53 HR0.out x7_2 p447 q447; have hw447_3 := hx447_3; have hw447_2 := hx447_2; have hw447_1 := hx447_1; have hw447_0 := hx447_0
           cases e447
           replace hx447_0 := cl HB hx447_0; replace hx447_1 := cl HB hx447_1; replace hx447_2 := cl HB hx447_2; replace hx447_3 := cl HB hx447_3; replace p447 := eq_true p447; replace q447 := eq_true q447; refine start_ (n := 13) (S := fun w' => w'.cell? ⟨gb441, 0, none⟩ = some (.int .i64 a1_0) ∧ w'.cell? ⟨gb441, 1, none⟩ = some (.int .i64 a1_1) ∧ w'.cell? (ad447.add ((x7_2).toNat * 4)) = some (.int .i64 ((rd_T53 l0 x7_2).f0.f0)) ∧ w'.cell? ⟨(ad447.add ((x7_2).toNat * 4)).block, (ad447.add ((x7_2).toNat * 4)).off + 1, none⟩ = some (.int .i64 ((rd_T53 l0 x7_2).f0.f1)) ∧ w'.cell? ⟨(ad447.add ((x7_2).toNat * 4)).block, (ad447.add ((x7_2).toNat * 4)).off + 2, none⟩ = some (.int .i64 ((rd_T53 l0 x7_2).f1.f0)) ∧ w'.cell? ⟨(ad447.add ((x7_2).toNat * 4)).block, (ad447.add ((x7_2).toNat * 4)).off + 3, none⟩ = some (.int .i64 ((rd_T53 l0 x7_2).f1.f1))) (ds := []) (bs 13 0) (by kernel_rfl) rfl rfl ⟨ct BK441 0, ct BK441 1, (cl HB hw447_0), (cl HB hw447_1), (cl HB hw447_2), (cl HB hw447_3)⟩ (fun hHeld => ?_)
           generalize wr.drew = w20 at HO_6 BK441 HB hx447_0 hx447_1 hx447_2 hx447_3 hHeld ⊢; refine zP 0 26 13 1 ?_; refine zP 1 27 13 3 ?_; refine zP 2 28 13 7 ?_; refine zP 3 29 13 15 ?_; refine zT 4 30 13 31 hHeld ?_; refine zT 5 31 13 63 hHeld ?_; refine join_ (σ := Nat) 2 (bs 13 2047) (fun s_ => [(32, .tuple #[.agg #[.int .i64 t448, .int .i64 t449], .int .i64 t450]), (8, .pointer (some ⟨s_, 0, none⟩)), (25, .tuple #[.agg #[.int .i64 t448, .int .i64 t449], .int .i64 t450]), (33, .agg #[.int .i64 t448, .int .i64 t449]), (34, .int .i64 t450)]) (fun s_ w' => (w'.cell? ⟨gb441, 0, none⟩ = some (.int .i64 a1_0) ∧ w'.cell? ⟨gb441, 1, none⟩ = some (.int .i64 a1_1) ∧ w'.cell? (ad447.add ((x7_2).toNat * 4)) = some (.int .i64 ((rd_T53 l0 x7_2).f0.f0)) ∧ w'.cell? ⟨(ad447.add ((x7_2).toNat * 4)).block, (ad447.add ((x7_2).toNat * 4)).off + 1, none⟩ = some (.int .i64 ((rd_T53 l0 x7_2).f0.f1)) ∧ w'.cell? ⟨(ad447.add ((x7_2).toNat * 4)).block, (ad447.add ((x7_2).toNat * 4)).off + 2, none⟩ = some (.int .i64 ((rd_T53 l0 x7_2).f1.f0)) ∧ w'.cell? ⟨(ad447.add ((x7_2).toNat * 4)).block, (ad447.add ((x7_2).toNat * 4)).off + 3, none⟩ = some (.int .i64 ((rd_T53 l0 x7_2).f1.f1))) ∧ (Kd.R k53 53 w' w.heap.size (fun _ => True) u6 x6_2) ∧ (w'.heap[gb441]? = some (.cells #[.int .i64 a1_0, .int .i64 a1_1] 24 (0, 0))) ∧ (w'.heap[s_]? = some (.cells #[.int .i64 0, .int .i64 0] 24 (0, 0))) ∧ (w.heap.size ≤ s_) ∧ (w.heap.size ≤ s_) ∧ (gb441 ≠ s_) ∧ (s_ ≠ gb441) ∧ (Below w.heap.size w w')) ?_ ?_
           rotate_left
           ·intro hCont; refine two_ (i := 6) (j := 10) (Ni := some 32) (Nj := some 8) (bs 13 127) (bs 13 1087) rfl rfl rfl rfl (by kernel_rfl) (by decide) (by decide) (fun K hK => ?_) (fun K hK => ?_)
            ·skip
             refine zG Tryz.func43 #[.agg #[.int .i64 ((rd_T53 l0 x7_2).f0.f0), .int .i64 ((rd_T53 l0 x7_2).f0.f1)], .agg #[.int .i64 a1_0, .int .i64 a1_1]] ?_
             with_reducible refine (dioramaref02_Add.calls k2 ((rd_T53 l0 x7_2).f0.f0) ((rd_T53 l0 x7_2).f0.f1) a1_0 a1_1 t448 t449 t450 _ A15.out).mono ?_
             rintro e w21 ⟨rfl, hb⟩; refine ⟨_, rfl, ?_⟩; replace HO_6 := Aside0.mk (Kd.R_below (rz HO_6) hb); replace BK441 := kb BK441 hb; replace HB := bp hb; clear hb; refine hK.out _ _ ⟨ct BK441 0, ct BK441 1, (cl HB hw447_0), (cl HB hw447_1), (cl HB hw447_2), (cl HB hw447_3)⟩ (fun hHeld => ?_); clear hK K; refine zM 32 ?_; refine zP 7 25 13 255 ?_; refine zP 8 33 13 511 ?_; refine zP 9 34 13 1023 ?_; refine zN 10 (some 8) 13 2047 (fun K hK => ?_); refine box_step ?hg (N := 8) ?hd (cs := #[.int .i64 0, .int .i64 0]) (t := 24) ?hr ?_; (case hd => rfl); (case hg => rfl); (case hr => first | (go_simp; done) | (go_simp; rfl))
             intro gb451 hg w22 hbox hb; replace HO_6 := Aside0.mk (Kd.R_below (rz HO_6) hb); have BK451 := Aside0.mk hbox; have GW451 := gz hg; have GE451 := gz hg; replace HB := bp hb; have NB441_451 := Aside0.mk ((by rw [hg]; exact Nat.ne_of_lt (bl BK441) : gb441 ≠ gb451)); have NB451_441 := Aside0.mk ((by rw [hg]; exact Nat.ne_of_gt (bl BK441) : gb451 ≠ gb441)); replace BK441 := kb BK441 hb; clear hb hbox hg; refine hK.out _ _ ⟨ct BK441 0, ct BK441 1, (cl HB hw447_0), (cl HB hw447_1), (cl HB hw447_2), (cl HB hw447_3)⟩ (fun hHeld => ?_); clear hK K; refine zM 8 ?_
             exact norm_ (by simp only [putAll, Act.put, List.setIfInBounds_toArray, List.set_cons_zero, List.set_cons_succ]) (hCont (gb451) _ ⟨hHeld, (rz HO_6), kz, kz, GW451.out, GE451.out, NB441_451.out, NB451_441.out, bz⟩)
            ·skip
             refine box_step ?hg (N := 8) ?hd (cs := #[.int .i64 0, .int .i64 0]) (t := 24) ?hr ?_; (case hd => rfl); (case hg => rfl); (case hr => first | (go_simp; done) | (go_simp; rfl))
             intro gb451 hg w21 hbox hb; replace HO_6 := Aside0.mk (Kd.R_below (rz HO_6) hb); have BK451 := Aside0.mk hbox; have GW451 := gz hg; have GE451 := gz hg; replace HB := bp hb; have NB441_451 := Aside0.mk ((by rw [hg]; exact Nat.ne_of_lt (bl BK441) : gb441 ≠ gb451)); have NB451_441 := Aside0.mk ((by rw [hg]; exact Nat.ne_of_gt (bl BK441) : gb451 ≠ gb441)); replace BK441 := kb BK441 hb; clear hb hbox hg; refine hK.out _ _ ⟨ct BK441 0, ct BK441 1, (cl HB hw447_0), (cl HB hw447_1), (cl HB hw447_2), (cl HB hw447_3)⟩ (fun hHeld => ?_); clear hK K; refine zM 8 ?_; refine zN 6 (some 32) 13 1151 (fun K hK => ?_); refine zG Tryz.func43 #[.agg #[.int .i64 ((rd_T53 l0 x7_2).f0.f0), .int .i64 ((rd_T53 l0 x7_2).f0.f1)], .agg #[.int .i64 a1_0, .int .i64 a1_1]] ?_
             with_reducible refine (dioramaref02_Add.calls k2 ((rd_T53 l0 x7_2).f0.f0) ((rd_T53 l0 x7_2).f0.f1) a1_0 a1_1 t448 t449 t450 _ A15.out).mono ?_
             rintro e w22 ⟨rfl, hb⟩; refine ⟨_, rfl, ?_⟩; replace HO_6 := Aside0.mk (Kd.R_below (rz HO_6) hb); replace BK441 := kb BK441 hb; replace BK451 := kb BK451 hb; replace HB := bp hb; clear hb; refine hK.out _ _ ⟨ct BK441 0, ct BK441 1, (cl HB hw447_0), (cl HB hw447_1), (cl HB hw447_2), (cl HB hw447_3)⟩ (fun hHeld => ?_); clear hK K; refine zM 32 ?_; refine zP 7 25 13 1279 ?_; refine zP 8 33 13 1535 ?_; refine zP 9 34 13 2047 ?_
             exact norm_ (by simp only [putAll, Act.put, List.setIfInBounds_toArray, List.set_cons_zero, List.set_cons_succ]) (hCont (gb451) _ ⟨hHeld, (rz HO_6), kz, kz, GW451.out, GE451.out, NB441_451.out, NB451_441.out, bz⟩)
           rintro gb451 w23 ⟨hS_, h0_, h1_, h2_, h3_, h4_, h5_, h6_, h7_⟩; have n0_ : Aside0 (Kd.R k53 53 w23 w.heap.size (fun _ => True) u6 x6_2) := ⟨h0_⟩; have n1_ : Aside0 (w23.heap[gb441]? = some (.cells #[.int .i64 a1_0, .int .i64 a1_1] 24 (0, 0))) := ⟨h1_⟩; have n2_ : Aside0 (w23.heap[gb451]? = some (.cells #[.int .i64 0, .int .i64 0] 24 (0, 0))) := ⟨h2_⟩; have n3_ : Aside0 (w.heap.size ≤ gb451) := ⟨h3_⟩; have n4_ : Aside0 (w.heap.size ≤ gb451) := ⟨h4_⟩; have n5_ : Aside0 (gb441 ≠ gb451) := ⟨h5_⟩; have n6_ : Aside0 (gb451 ≠ gb441) := ⟨h6_⟩; have n7_ : Aside0 (Below w.heap.size w w23) := ⟨h7_⟩; clear HO_6; clear BK441; clear HB; clear h0_ h1_ h2_ h3_ h4_ h5_ h6_ h7_; have HO_6 := n0_; have BK441 := n1_; have BK451 := n2_; have GW451 := n3_; have GE451 := n4_; have NB441_451 := n5_; have NB451_441 := n6_; have HB := n7_; clear n0_ n1_ n2_ n3_ n4_ n5_ n6_ n7_; have hHeld : w23.cell? ⟨gb441, 0, none⟩ = some (.int .i64 a1_0) ∧ w23.cell? ⟨gb441, 1, none⟩ = some (.int .i64 a1_1) ∧ w23.cell? (ad447.add ((x7_2).toNat * 4)) = some (.int .i64 ((rd_T53 l0 x7_2).f0.f0)) ∧ w23.cell? ⟨(ad447.add ((x7_2).toNat * 4)).block, (ad447.add ((x7_2).toNat * 4)).off + 1, none⟩ = some (.int .i64 ((rd_T53 l0 x7_2).f0.f1)) ∧ w23.cell? ⟨(ad447.add ((x7_2).toNat * 4)).block, (ad447.add ((x7_2).toNat * 4)).off + 2, none⟩ = some (.int .i64 ((rd_T53 l0 x7_2).f1.f0)) ∧ w23.cell? ⟨(ad447.add ((x7_2).toNat * 4)).block, (ad447.add ((x7_2).toNat * 4)).off + 3, none⟩ = some (.int .i64 ((rd_T53 l0 x7_2).f1.f1)) := hS_; refine norm_ (a' := ?_) ?_ ?_
           rotate_left
           ·simp only [putAll, Act.put, List.setIfInBounds_toArray, List.set_cons_zero, List.set_cons_succ]
            rfl
           refine zN 11 none 13 4095 (fun K hK => ?_); have hs24 : w23.cell? ⟨gb451, 0, none⟩ = some (.int .i64 0) := ct BK451 0; have hfs24 := blk_frozen BK451.out 0; have hns24_0 := NB441_451.out; have hms24_0 := NB451_441.out; have hs25 : w23.cell? ⟨gb451, 1, none⟩ = some (.int .i64 0) := ct BK451 1; have hfs25 := blk_frozen BK451.out 1; have hns25_0 := NB441_451.out; have hms25_0 := NB451_441.out; refine skip_ (w1 := ?_) (by rfl) rfl ?_ ?_
           rotate_left
           ·go_simp
            rfl
           refine hK.out _ _ ⟨((cell_far (p := ⟨gb451, _, none⟩) NB441_451.out _).trans (((cell_far (p := ⟨gb451, _, none⟩) NB441_451.out _).trans (hHeld.1)))), ((cell_far (p := ⟨gb451, _, none⟩) NB441_451.out _).trans (((cell_far (p := ⟨gb451, _, none⟩) NB441_451.out _).trans (hHeld.2.1)))), ((cell_far (p := ⟨gb451, _, none⟩) (by first | exact Nat.ne_of_lt (Nat.lt_of_lt_of_le (by have := World.block_lt_of_cell? _ _ hw447_0; first | rwa [add_block] at this | exact this) GW451.out) | (rw [add_block]; exact Nat.ne_of_lt (Nat.lt_of_lt_of_le (by have := World.block_lt_of_cell? _ _ hw447_0; first | rwa [add_block] at this | exact this) GW451.out)) | (show (Addr.add _ _).block ≠ _; rw [add_block]; exact Nat.ne_of_lt (Nat.lt_of_lt_of_le (by have := World.block_lt_of_cell? _ _ hw447_0; first | rwa [add_block] at this | exact this) GW451.out)) | (dsimp only; exact Nat.ne_of_lt (Nat.lt_of_lt_of_le (by have := World.block_lt_of_cell? _ _ hw447_0; first | rwa [add_block] at this | exact this) GW451.out))) _).trans (((cell_far (p := ⟨gb451, _, none⟩) (by first | exact Nat.ne_of_lt (Nat.lt_of_lt_of_le (by have := World.block_lt_of_cell? _ _ hw447_0; first | rwa [add_block] at this | exact this) GW451.out) | (rw [add_block]; exact Nat.ne_of_lt (Nat.lt_of_lt_of_le (by have := World.block_lt_of_cell? _ _ hw447_0; first | rwa [add_block] at this | exact this) GW451.out)) | (show (Addr.add _ _).block ≠ _; rw [add_block]; exact Nat.ne_of_lt (Nat.lt_of_lt_of_le (by have := World.block_lt_of_cell? _ _ hw447_0; first | rwa [add_block] at this | exact this) GW451.out)) | (dsimp only; exact Nat.ne_of_lt (Nat.lt_of_lt_of_le (by have := World.block_lt_of_cell? _ _ hw447_0; first | rwa [add_block] at this | exact this) GW451.out))) _).trans (hHeld.2.2.1)))), ((cell_far (p := ⟨gb451, _, none⟩) (by first | exact Nat.ne_of_lt (Nat.lt_of_lt_of_le (by have := World.block_lt_of_cell? _ _ hw447_1; first | rwa [add_block] at this | exact this) GW451.out) | (rw [add_block]; exact Nat.ne_of_lt (Nat.lt_of_lt_of_le (by have := World.block_lt_of_cell? _ _ hw447_1; first | rwa [add_block] at this | exact this) GW451.out)) | (show (Addr.add _ _).block ≠ _; rw [add_block]; exact Nat.ne_of_lt (Nat.lt_of_lt_of_le (by have := World.block_lt_of_cell? _ _ hw447_1; first | rwa [add_block] at this | exact this) GW451.out)) | (dsimp only; exact Nat.ne_of_lt (Nat.lt_of_lt_of_le (by have := World.block_lt_of_cell? _ _ hw447_1; first | rwa [add_block] at this | exact this) GW451.out))) _).trans (((cell_far (p := ⟨gb451, _, none⟩) (by first | exact Nat.ne_of_lt (Nat.lt_of_lt_of_le (by have := World.block_lt_of_cell? _ _ hw447_1; first | rwa [add_block] at this | exact this) GW451.out) | (rw [add_block]; exact Nat.ne_of_lt (Nat.lt_of_lt_of_le (by have := World.block_lt_of_cell? _ _ hw447_1; first | rwa [add_block] at this | exact this) GW451.out)) | (show (Addr.add _ _).block ≠ _; rw [add_block]; exact Nat.ne_of_lt (Nat.lt_of_lt_of_le (by have := World.block_lt_of_cell? _ _ hw447_1; first | rwa [add_block] at this | exact this) GW451.out)) | (dsimp only; exact Nat.ne_of_lt (Nat.lt_of_lt_of_le (by have := World.block_lt_of_cell? _ _ hw447_1; first | rwa [add_block] at this | exact this) GW451.out))) _).trans (hHeld.2.2.2.1)))), ((cell_far (p := ⟨gb451, _, none⟩) (by first | exact Nat.ne_of_lt (Nat.lt_of_lt_of_le (by have := World.block_lt_of_cell? _ _ hw447_2; first | rwa [add_block] at this | exact this) GW451.out) | (rw [add_block]; exact Nat.ne_of_lt (Nat.lt_of_lt_of_le (by have := World.block_lt_of_cell? _ _ hw447_2; first | rwa [add_block] at this | exact this) GW451.out)) | (show (Addr.add _ _).block ≠ _; rw [add_block]; exact Nat.ne_of_lt (Nat.lt_of_lt_of_le (by have := World.block_lt_of_cell? _ _ hw447_2; first | rwa [add_block] at this | exact this) GW451.out)) | (dsimp only; exact Nat.ne_of_lt (Nat.lt_of_lt_of_le (by have := World.block_lt_of_cell? _ _ hw447_2; first | rwa [add_block] at this | exact this) GW451.out))) _).trans (((cell_far (p := ⟨gb451, _, none⟩) (by first | exact Nat.ne_of_lt (Nat.lt_of_lt_of_le (by have := World.block_lt_of_cell? _ _ hw447_2; first | rwa [add_block] at this | exact this) GW451.out) | (rw [add_block]; exact Nat.ne_of_lt (Nat.lt_of_lt_of_le (by have := World.block_lt_of_cell? _ _ hw447_2; first | rwa [add_block] at this | exact this) GW451.out)) | (show (Addr.add _ _).block ≠ _; rw [add_block]; exact Nat.ne_of_lt (Nat.lt_of_lt_of_le (by have := World.block_lt_of_cell? _ _ hw447_2; first | rwa [add_block] at this | exact this) GW451.out)) | (dsimp only; exact Nat.ne_of_lt (Nat.lt_of_lt_of_le (by have := World.block_lt_of_cell? _ _ hw447_2; first | rwa [add_block] at this | exact this) GW451.out))) _).trans (hHeld.2.2.2.2.1)))), ((cell_far (p := ⟨gb451, _, none⟩) (by first | exact Nat.ne_of_lt (Nat.lt_of_lt_of_le (by have := World.block_lt_of_cell? _ _ hw447_3; first | rwa [add_block] at this | exact this) GW451.out) | (rw [add_block]; exact Nat.ne_of_lt (Nat.lt_of_lt_of_le (by have := World.block_lt_of_cell? _ _ hw447_3; first | rwa [add_block] at this | exact this) GW451.out)) | (show (Addr.add _ _).block ≠ _; rw [add_block]; exact Nat.ne_of_lt (Nat.lt_of_lt_of_le (by have := World.block_lt_of_cell? _ _ hw447_3; first | rwa [add_block] at this | exact this) GW451.out)) | (dsimp only; exact Nat.ne_of_lt (Nat.lt_of_lt_of_le (by have := World.block_lt_of_cell? _ _ hw447_3; first | rwa [add_block] at this | exact this) GW451.out))) _).trans (((cell_far (p := ⟨gb451, _, none⟩) (by first | exact Nat.ne_of_lt (Nat.lt_of_lt_of_le (by have := World.block_lt_of_cell? _ _ hw447_3; first | rwa [add_block] at this | exact this) GW451.out) | (rw [add_block]; exact Nat.ne_of_lt (Nat.lt_of_lt_of_le (by have := World.block_lt_of_cell? _ _ hw447_3; first | rwa [add_block] at this | exact this) GW451.out)) | (show (Addr.add _ _).block ≠ _; rw [add_block]; exact Nat.ne_of_lt (Nat.lt_of_lt_of_le (by have := World.block_lt_of_cell? _ _ hw447_3; first | rwa [add_block] at this | exact this) GW451.out)) | (dsimp only; exact Nat.ne_of_lt (Nat.lt_of_lt_of_le (by have := World.block_lt_of_cell? _ _ hw447_3; first | rwa [add_block] at this | exact this) GW451.out))) _).trans (hHeld.2.2.2.2.2))))⟩ (fun hHeld => ?_)
           clear hK K; refine zP 12 9 13 8191 ?_; refine done_ (by kernel_rfl) ?_
           try go_wp2
           have n0_ : Aside0 (Kd.R k53 53 ((w23.setCell ⟨gb451, 0, none⟩ (.int .i64 t448)).setCell ⟨gb451, 1, none⟩ (.int .i64 t449)) w.heap.size (fun _ => True) u6 x6_2) := ⟨by (with_reducible repeat (first | apply Kd.R_alloc | apply Kd.R_drewN | apply Kd.R_drew)); exact Kd.R_mono (Kd.R_far (p := ⟨gb451, 1, none⟩) (Kd.R_far (p := ⟨gb451, 0, none⟩) (Kd.R_types HO_6.out BK451.out (by decide)) (fun _ hk => hk.2) (.int .i64 t448)) (fun _ hk => hk.2) (.int .i64 t449)) (fun _ hk => trivial)⟩; have n1_ : Aside0 (((w23.setCell ⟨gb451, 0, none⟩ (.int .i64 t448)).setCell ⟨gb451, 1, none⟩ (.int .i64 t449)).heap[gb441]? = some (.cells #[.int .i64 a1_0, .int .i64 a1_1] 24 (0, 0))) := ⟨by (with_reducible repeat (first | refine blk_drewN ?_ _ | refine blk_drew ?_ | refine blk_alloc ?_ _)); refine blk_far ?_ NB441_451.out _; (with_reducible repeat (first | refine blk_drewN ?_ _ | refine blk_drew ?_ | refine blk_alloc ?_ _)); refine blk_far ?_ NB441_451.out _; (with_reducible repeat (first | refine blk_drewN ?_ _ | refine blk_drew ?_ | refine blk_alloc ?_ _)); exact BK441.out⟩; have n2_ : Aside0 (((w23.setCell ⟨gb451, 0, none⟩ (.int .i64 t448)).setCell ⟨gb451, 1, none⟩ (.int .i64 t449)).heap[gb451]? = some (.cells #[.int .i64 t448, .int .i64 t449] 24 (0, 0))) := ⟨by (with_reducible repeat (first | refine blk_drewN ?_ _ | refine blk_drew ?_ | refine blk_alloc ?_ _)); refine blk_put (cs := #[.int .i64 t448, .int .i64 0]) ?_ 1 _ rfl; (with_reducible repeat (first | refine blk_drewN ?_ _ | refine blk_drew ?_ | refine blk_alloc ?_ _)); refine blk_put (cs := #[.int .i64 0, .int .i64 0]) ?_ 0 _ rfl; (with_reducible repeat (first | refine blk_drewN ?_ _ | refine blk_drew ?_ | refine blk_alloc ?_ _)); exact BK451.out⟩; have n3_ : Aside0 (Below w.heap.size w ((w23.setCell ⟨gb451, 0, none⟩ (.int .i64 t448)).setCell ⟨gb451, 1, none⟩ (.int .i64 t449))) := ⟨bz⟩
           (try clear HO_6)
           (try clear BK441)
           (try clear BK451)
           (try clear HB)
           generalize ((w23.setCell ⟨gb451, 0, none⟩ (.int .i64 t448)).setCell ⟨gb451, 1, none⟩ (.int .i64 t449)) = w26 at n0_ n1_ n2_ n3_ ⊢; have HO_6 := n0_; have BK441 := n1_; have BK451 := n2_; have HB := n3_; clear n0_ n1_ n2_ n3_; replace HO_6 := Aside0.mk (Kd.R_drew HO_6.out); replace BK441 := Aside0.mk (blk_drew BK441.out); replace BK451 := Aside0.mk (blk_drew BK451.out); replace HB := Aside0.mk (below_drew1 HB.out); have p452 : 0 ≤ (x7_2 : Int) := od; have q452 : x7_2 < (l0.length : Int) := od; obtain ⟨ad452, e452, hx452_0, hx452_1, hx452_2, hx452_3⟩ := at_T53 HR0.out x7_2 p452 q452; have hw452_3 := hx452_3; have hw452_2 := hx452_2; have hw452_1 := hx452_1; have hw452_0 := hx452_0; obtain rfl : ad447 = ad452 := (by injection e452); replace hx452_0 := cl HB hx452_0; replace hx452_1 := cl HB hx452_1; replace hx452_2 := cl HB hx452_2; replace hx452_3 := cl HB hx452_3; replace p452 := eq_true p452; replace q452 := eq_true q452; refine start_ (n := 13) (S := fun w' => w'.cell? ⟨gb441, 0, none⟩ = some (.int .i64 a1_0) ∧ w'.cell? ⟨gb441, 1, none⟩ = some (.int .i64 a1_1) ∧ w'.cell? (ad447.add ((x7_2).toNat * 4)) = some (.int .i64 ((rd_T53 l0 x7_2).f0.f0)) ∧ w'.cell? ⟨(ad447.add ((x7_2).toNat * 4)).block, (ad447.add ((x7_2).toNat * 4)).off + 1, none⟩ = some (.int .i64 ((rd_T53 l0 x7_2).f0.f1)) ∧ w'.cell? ⟨(ad447.add ((x7_2).toNat * 4)).block, (ad447.add ((x7_2).toNat * 4)).off + 2, none⟩ = some (.int .i64 ((rd_T53 l0 x7_2).f1.f0)) ∧ w'.cell? ⟨(ad447.add ((x7_2).toNat * 4)).block, (ad447.add ((x7_2).toNat * 4)).off + 3, none⟩ = some (.int .i64 ((rd_T53 l0 x7_2).f1.f1))) (ds := []) (bs 13 0) (by kernel_rfl) rfl rfl ⟨ct BK441 0, ct BK441 1, (cl HB hw452_0), (cl HB hw452_1), (cl HB hw452_2), (cl HB hw452_3)⟩ (fun hHeld => ?_)
           generalize w26.drew = w27 at HO_6 BK441 BK451 HB hx452_0 hx452_1 hx452_2 hx452_3 hHeld ⊢; refine zP 0 39 13 1 ?_; refine zP 1 40 13 3 ?_; refine zP 2 41 13 7 ?_; refine zP 3 42 13 15 ?_; refine zT 4 43 13 31 hHeld ?_; refine zT 5 44 13 63 hHeld ?_; refine join_ (σ := Nat) 2 (bs 13 2047) (fun s_ => [(45, .tuple #[.agg #[.int .i64 t453, .int .i64 t454], .int .i64 t455]), (10, .pointer (some ⟨s_, 0, none⟩)), (38, .tuple #[.agg #[.int .i64 t453, .int .i64 t454], .int .i64 t455]), (46, .agg #[.int .i64 t453, .int .i64 t454]), (47, .int .i64 t455)]) (fun s_ w' => (w'.cell? ⟨gb441, 0, none⟩ = some (.int .i64 a1_0) ∧ w'.cell? ⟨gb441, 1, none⟩ = some (.int .i64 a1_1) ∧ w'.cell? (ad447.add ((x7_2).toNat * 4)) = some (.int .i64 ((rd_T53 l0 x7_2).f0.f0)) ∧ w'.cell? ⟨(ad447.add ((x7_2).toNat * 4)).block, (ad447.add ((x7_2).toNat * 4)).off + 1, none⟩ = some (.int .i64 ((rd_T53 l0 x7_2).f0.f1)) ∧ w'.cell? ⟨(ad447.add ((x7_2).toNat * 4)).block, (ad447.add ((x7_2).toNat * 4)).off + 2, none⟩ = some (.int .i64 ((rd_T53 l0 x7_2).f1.f0)) ∧ w'.cell? ⟨(ad447.add ((x7_2).toNat * 4)).block, (ad447.add ((x7_2).toNat * 4)).off + 3, none⟩ = some (.int .i64 ((rd_T53 l0 x7_2).f1.f1))) ∧ (Kd.R k53 53 w' w.heap.size (fun _ => True) u6 x6_2) ∧ (w'.heap[gb441]? = some (.cells #[.int .i64 a1_0, .int .i64 a1_1] 24 (0, 0))) ∧ (w'.heap[gb451]? = some (.cells #[.int .i64 t448, .int .i64 t449] 24 (0, 0))) ∧ (w'.heap[s_]? = some (.cells #[.int .i64 0, .int .i64 0] 24 (0, 0))) ∧ (w.heap.size ≤ s_) ∧ (w.heap.size ≤ s_) ∧ (gb441 ≠ s_) ∧ (s_ ≠ gb441) ∧ (gb451 ≠ s_) ∧ (s_ ≠ gb451) ∧ (Below w.heap.size w w')) ?_ ?_
           rotate_left
           ·intro hCont; refine two_ (i := 6) (j := 10) (Ni := some 45) (Nj := some 10) (bs 13 127) (bs 13 1087) rfl rfl rfl rfl (by kernel_rfl) (by decide) (by decide) (fun K hK => ?_) (fun K hK => ?_)
            ·skip
             refine zG Tryz.func43 #[.agg #[.int .i64 ((rd_T53 l0 x7_2).f1.f0), .int .i64 ((rd_T53 l0 x7_2).f1.f1)], .agg #[.int .i64 a1_0, .int .i64 a1_1]] ?_
             with_reducible refine (dioramaref02_Add.calls k2 ((rd_T53 l0 x7_2).f1.f0) ((rd_T53 l0 x7_2).f1.f1) a1_0 a1_1 t453 t454 t455 _ A17.out).mono ?_
             rintro e w28 ⟨rfl, hb⟩; refine ⟨_, rfl, ?_⟩; replace HO_6 := Aside0.mk (Kd.R_below (rz HO_6) hb); replace BK441 := kb BK441 hb; replace BK451 := kb BK451 hb; replace HB := bp hb; clear hb; refine hK.out _ _ ⟨ct BK441 0, ct BK441 1, (cl HB hw452_0), (cl HB hw452_1), (cl HB hw452_2), (cl HB hw452_3)⟩ (fun hHeld => ?_); clear hK K; refine zM 45 ?_; refine zP 7 38 13 255 ?_; refine zP 8 46 13 511 ?_; refine zP 9 47 13 1023 ?_; refine zN 10 (some 10) 13 2047 (fun K hK => ?_); refine box_step ?hg (N := 10) ?hd (cs := #[.int .i64 0, .int .i64 0]) (t := 24) ?hr ?_; (case hd => rfl); (case hg => rfl); (case hr => first | (go_simp; done) | (go_simp; rfl))
             intro gb456 hg w29 hbox hb; replace HO_6 := Aside0.mk (Kd.R_below (rz HO_6) hb); have BK456 := Aside0.mk hbox; have GW456 := gz hg; have GE456 := gz hg; replace HB := bp hb; have NB441_456 := Aside0.mk ((by rw [hg]; exact Nat.ne_of_lt (bl BK441) : gb441 ≠ gb456)); have NB456_441 := Aside0.mk ((by rw [hg]; exact Nat.ne_of_gt (bl BK441) : gb456 ≠ gb441)); replace BK441 := kb BK441 hb; have NB451_456 := Aside0.mk ((by rw [hg]; exact Nat.ne_of_lt (bl BK451) : gb451 ≠ gb456)); have NB456_451 := Aside0.mk ((by rw [hg]; exact Nat.ne_of_gt (bl BK451) : gb456 ≠ gb451)); replace BK451 := kb BK451 hb; clear hb hbox hg; refine hK.out _ _ ⟨ct BK441 0, ct BK441 1, (cl HB hw452_0), (cl HB hw452_1), (cl HB hw452_2), (cl HB hw452_3)⟩ (fun hHeld => ?_); clear hK K; refine zM 10 ?_
             exact norm_ (by simp only [putAll, Act.put, List.setIfInBounds_toArray, List.set_cons_zero, List.set_cons_succ]) (hCont (gb456) _ ⟨hHeld, (rz HO_6), kz, kz, kz, GW456.out, GE456.out, NB441_456.out, NB456_441.out, NB451_456.out, NB456_451.out, bz⟩)
            ·skip
             refine box_step ?hg (N := 10) ?hd (cs := #[.int .i64 0, .int .i64 0]) (t := 24) ?hr ?_; (case hd => rfl); (case hg => rfl); (case hr => first | (go_simp; done) | (go_simp; rfl))
             intro gb456 hg w28 hbox hb; replace HO_6 := Aside0.mk (Kd.R_below (rz HO_6) hb); have BK456 := Aside0.mk hbox; have GW456 := gz hg; have GE456 := gz hg; replace HB := bp hb; have NB441_456 := Aside0.mk ((by rw [hg]; exact Nat.ne_of_lt (bl BK441) : gb441 ≠ gb456)); have NB456_441 := Aside0.mk ((by rw [hg]; exact Nat.ne_of_gt (bl BK441) : gb456 ≠ gb441)); replace BK441 := kb BK441 hb; have NB451_456 := Aside0.mk ((by rw [hg]; exact Nat.ne_of_lt (bl BK451) : gb451 ≠ gb456)); have NB456_451 := Aside0.mk ((by rw [hg]; exact Nat.ne_of_gt (bl BK451) : gb456 ≠ gb451)); replace BK451 := kb BK451 hb; clear hb hbox hg; refine hK.out _ _ ⟨ct BK441 0, ct BK441 1, (cl HB hw452_0), (cl HB hw452_1), (cl HB hw452_2), (cl HB hw452_3)⟩ (fun hHeld => ?_); clear hK K; refine zM 10 ?_; refine zN 6 (some 45) 13 1151 (fun K hK => ?_); refine zG Tryz.func43 #[.agg #[.int .i64 ((rd_T53 l0 x7_2).f1.f0), .int .i64 ((rd_T53 l0 x7_2).f1.f1)], .agg #[.int .i64 a1_0, .int .i64 a1_1]] ?_
             with_reducible refine (dioramaref02_Add.calls k2 ((rd_T53 l0 x7_2).f1.f0) ((rd_T53 l0 x7_2).f1.f1) a1_0 a1_1 t453 t454 t455 _ A17.out).mono ?_
             rintro e w29 ⟨rfl, hb⟩; refine ⟨_, rfl, ?_⟩; replace HO_6 := Aside0.mk (Kd.R_below (rz HO_6) hb); replace BK441 := kb BK441 hb; replace BK451 := kb BK451 hb; replace BK456 := kb BK456 hb; replace HB := bp hb; clear hb; refine hK.out _ _ ⟨ct BK441 0, ct BK441 1, (cl HB hw452_0), (cl HB hw452_1), (cl HB hw452_2), (cl HB hw452_3)⟩ (fun hHeld => ?_); clear hK K; refine zM 45 ?_; refine zP 7 38 13 1279 ?_; refine zP 8 46 13 1535 ?_; refine zP 9 47 13 2047 ?_
             exact norm_ (by simp only [putAll, Act.put, List.setIfInBounds_toArray, List.set_cons_zero, List.set_cons_succ]) (hCont (gb456) _ ⟨hHeld, (rz HO_6), kz, kz, kz, GW456.out, GE456.out, NB441_456.out, NB456_441.out, NB451_456.out, NB456_451.out, bz⟩)
           rintro gb456 w30 ⟨hS_, h0_, h1_, h2_, h3_, h4_, h5_, h6_, h7_, h8_, h9_, h10_⟩; have n0_ : Aside0 (Kd.R k53 53 w30 w.heap.size (fun _ => True) u6 x6_2) := ⟨h0_⟩; have n1_ : Aside0 (w30.heap[gb441]? = some (.cells #[.int .i64 a1_0, .int .i64 a1_1] 24 (0, 0))) := ⟨h1_⟩; have n2_ : Aside0 (w30.heap[gb451]? = some (.cells #[.int .i64 t448, .int .i64 t449] 24 (0, 0))) := ⟨h2_⟩; have n3_ : Aside0 (w30.heap[gb456]? = some (.cells #[.int .i64 0, .int .i64 0] 24 (0, 0))) := ⟨h3_⟩; have n4_ : Aside0 (w.heap.size ≤ gb456) := ⟨h4_⟩; have n5_ : Aside0 (w.heap.size ≤ gb456) := ⟨h5_⟩; have n6_ : Aside0 (gb441 ≠ gb456) := ⟨h6_⟩; have n7_ : Aside0 (gb456 ≠ gb441) := ⟨h7_⟩; have n8_ : Aside0 (gb451 ≠ gb456) := ⟨h8_⟩; have n9_ : Aside0 (gb456 ≠ gb451) := ⟨h9_⟩; have n10_ : Aside0 (Below w.heap.size w w30) := ⟨h10_⟩; clear HO_6; clear BK441; clear BK451; clear HB; clear h0_ h1_ h2_ h3_ h4_ h5_ h6_ h7_ h8_ h9_ h10_; have HO_6 := n0_; have BK441 := n1_; have BK451 := n2_; have BK456 := n3_; have GW456 := n4_; have GE456 := n5_; have NB441_456 := n6_; have NB456_441 := n7_; have NB451_456 := n8_; have NB456_451 := n9_; have HB := n10_; clear n0_ n1_ n2_ n3_ n4_ n5_ n6_ n7_ n8_ n9_ n10_; have hHeld : w30.cell? ⟨gb441, 0, none⟩ = some (.int .i64 a1_0) ∧ w30.cell? ⟨gb441, 1, none⟩ = some (.int .i64 a1_1) ∧ w30.cell? (ad447.add ((x7_2).toNat * 4)) = some (.int .i64 ((rd_T53 l0 x7_2).f0.f0)) ∧ w30.cell? ⟨(ad447.add ((x7_2).toNat * 4)).block, (ad447.add ((x7_2).toNat * 4)).off + 1, none⟩ = some (.int .i64 ((rd_T53 l0 x7_2).f0.f1)) ∧ w30.cell? ⟨(ad447.add ((x7_2).toNat * 4)).block, (ad447.add ((x7_2).toNat * 4)).off + 2, none⟩ = some (.int .i64 ((rd_T53 l0 x7_2).f1.f0)) ∧ w30.cell? ⟨(ad447.add ((x7_2).toNat * 4)).block, (ad447.add ((x7_2).toNat * 4)).off + 3, none⟩ = some (.int .i64 ((rd_T53 l0 x7_2).f1.f1)) := hS_; refine norm_ (a' := ?_) ?_ ?_
           rotate_left
           ·simp only [putAll, Act.put, List.setIfInBounds_toArray, List.set_cons_zero, List.set_cons_succ]
            rfl
           refine zN 11 none 13 4095 (fun K hK => ?_); have hs31 : w30.cell? ⟨gb456, 0, none⟩ = some (.int .i64 0) := ct BK456 0; have hfs31 := blk_frozen BK456.out 0; have hns31_0 := NB441_456.out; have hns31_1 := NB451_456.out; have hms31_0 := NB456_441.out; have hms31_1 := NB456_451.out; have hs32 : w30.cell? ⟨gb456, 1, none⟩ = some (.int .i64 0) := ct BK456 1; have hfs32 := blk_frozen BK456.out 1; have hns32_0 := NB441_456.out; have hns32_1 := NB451_456.out; have hms32_0 := NB456_441.out; have hms32_1 := NB456_451.out; refine skip_ (w1 := ?_) (by rfl) rfl ?_ ?_
           rotate_left
           ·go_simp
            rfl
           refine hK.out _ _ ⟨((cell_far (p := ⟨gb456, _, none⟩) NB441_456.out _).trans (((cell_far (p := ⟨gb456, _, none⟩) NB441_456.out _).trans (hHeld.1)))), ((cell_far (p := ⟨gb456, _, none⟩) NB441_456.out _).trans (((cell_far (p := ⟨gb456, _, none⟩) NB441_456.out _).trans (hHeld.2.1)))), ((cell_far (p := ⟨gb456, _, none⟩) (by first | exact Nat.ne_of_lt (Nat.lt_of_lt_of_le (by have := World.block_lt_of_cell? _ _ hw452_0; first | rwa [add_block] at this | exact this) GW456.out) | (rw [add_block]; exact Nat.ne_of_lt (Nat.lt_of_lt_of_le (by have := World.block_lt_of_cell? _ _ hw452_0; first | rwa [add_block] at this | exact this) GW456.out)) | (show (Addr.add _ _).block ≠ _; rw [add_block]; exact Nat.ne_of_lt (Nat.lt_of_lt_of_le (by have := World.block_lt_of_cell? _ _ hw452_0; first | rwa [add_block] at this | exact this) GW456.out)) | (dsimp only; exact Nat.ne_of_lt (Nat.lt_of_lt_of_le (by have := World.block_lt_of_cell? _ _ hw452_0; first | rwa [add_block] at this | exact this) GW456.out))) _).trans (((cell_far (p := ⟨gb456, _, none⟩) (by first | exact Nat.ne_of_lt (Nat.lt_of_lt_of_le (by have := World.block_lt_of_cell? _ _ hw452_0; first | rwa [add_block] at this | exact this) GW456.out) | (rw [add_block]; exact Nat.ne_of_lt (Nat.lt_of_lt_of_le (by have := World.block_lt_of_cell? _ _ hw452_0; first | rwa [add_block] at this | exact this) GW456.out)) | (show (Addr.add _ _).block ≠ _; rw [add_block]; exact Nat.ne_of_lt (Nat.lt_of_lt_of_le (by have := World.block_lt_of_cell? _ _ hw452_0; first | rwa [add_block] at this | exact this) GW456.out)) | (dsimp only; exact Nat.ne_of_lt (Nat.lt_of_lt_of_le (by have := World.block_lt_of_cell? _ _ hw452_0; first | rwa [add_block] at this | exact this) GW456.out))) _).trans (hHeld.2.2.1)))), ((cell_far (p := ⟨gb456, _, none⟩) (by first | exact Nat.ne_of_lt (Nat.lt_of_lt_of_le (by have := World.block_lt_of_cell? _ _ hw452_1; first | rwa [add_block] at this | exact this) GW456.out) | (rw [add_block]; exact Nat.ne_of_lt (Nat.lt_of_lt_of_le (by have := World.block_lt_of_cell? _ _ hw452_1; first | rwa [add_block] at this | exact this) GW456.out)) | (show (Addr.add _ _).block ≠ _; rw [add_block]; exact Nat.ne_of_lt (Nat.lt_of_lt_of_le (by have := World.block_lt_of_cell? _ _ hw452_1; first | rwa [add_block] at this | exact this) GW456.out)) | (dsimp only; exact Nat.ne_of_lt (Nat.lt_of_lt_of_le (by have := World.block_lt_of_cell? _ _ hw452_1; first | rwa [add_block] at this | exact this) GW456.out))) _).trans (((cell_far (p := ⟨gb456, _, none⟩) (by first | exact Nat.ne_of_lt (Nat.lt_of_lt_of_le (by have := World.block_lt_of_cell? _ _ hw452_1; first | rwa [add_block] at this | exact this) GW456.out) | (rw [add_block]; exact Nat.ne_of_lt (Nat.lt_of_lt_of_le (by have := World.block_lt_of_cell? _ _ hw452_1; first | rwa [add_block] at this | exact this) GW456.out)) | (show (Addr.add _ _).block ≠ _; rw [add_block]; exact Nat.ne_of_lt (Nat.lt_of_lt_of_le (by have := World.block_lt_of_cell? _ _ hw452_1; first | rwa [add_block] at this | exact this) GW456.out)) | (dsimp only; exact Nat.ne_of_lt (Nat.lt_of_lt_of_le (by have := World.block_lt_of_cell? _ _ hw452_1; first | rwa [add_block] at this | exact this) GW456.out))) _).trans (hHeld.2.2.2.1)))), ((cell_far (p := ⟨gb456, _, none⟩) (by first | exact Nat.ne_of_lt (Nat.lt_of_lt_of_le (by have := World.block_lt_of_cell? _ _ hw452_2; first | rwa [add_block] at this | exact this) GW456.out) | (rw [add_block]; exact Nat.ne_of_lt (Nat.lt_of_lt_of_le (by have := World.block_lt_of_cell? _ _ hw452_2; first | rwa [add_block] at this | exact this) GW456.out)) | (show (Addr.add _ _).block ≠ _; rw [add_block]; exact Nat.ne_of_lt (Nat.lt_of_lt_of_le (by have := World.block_lt_of_cell? _ _ hw452_2; first | rwa [add_block] at this | exact this) GW456.out)) | (dsimp only; exact Nat.ne_of_lt (Nat.lt_of_lt_of_le (by have := World.block_lt_of_cell? _ _ hw452_2; first | rwa [add_block] at this | exact this) GW456.out))) _).trans (((cell_far (p := ⟨gb456, _, none⟩) (by first | exact Nat.ne_of_lt (Nat.lt_of_lt_of_le (by have := World.block_lt_of_cell? _ _ hw452_2; first | rwa [add_block] at this | exact this) GW456.out) | (rw [add_block]; exact Nat.ne_of_lt (Nat.lt_of_lt_of_le (by have := World.block_lt_of_cell? _ _ hw452_2; first | rwa [add_block] at this | exact this) GW456.out)) | (show (Addr.add _ _).block ≠ _; rw [add_block]; exact Nat.ne_of_lt (Nat.lt_of_lt_of_le (by have := World.block_lt_of_cell? _ _ hw452_2; first | rwa [add_block] at this | exact this) GW456.out)) | (dsimp only; exact Nat.ne_of_lt (Nat.lt_of_lt_of_le (by have := World.block_lt_of_cell? _ _ hw452_2; first | rwa [add_block] at this | exact this) GW456.out))) _).trans (hHeld.2.2.2.2.1)))), ((cell_far (p := ⟨gb456, _, none⟩) (by first | exact Nat.ne_of_lt (Nat.lt_of_lt_of_le (by have := World.block_lt_of_cell? _ _ hw452_3; first | rwa [add_block] at this | exact this) GW456.out) | (rw [add_block]; exact Nat.ne_of_lt (Nat.lt_of_lt_of_le (by have := World.block_lt_of_cell? _ _ hw452_3; first | rwa [add_block] at this | exact this) GW456.out)) | (show (Addr.add _ _).block ≠ _; rw [add_block]; exact Nat.ne_of_lt (Nat.lt_of_lt_of_le (by have := World.block_lt_of_cell? _ _ hw452_3; first | rwa [add_block] at this | exact this) GW456.out)) | (dsimp only; exact Nat.ne_of_lt (Nat.lt_of_lt_of_le (by have := World.block_lt_of_cell? _ _ hw452_3; first | rwa [add_block] at this | exact this) GW456.out))) _).trans (((cell_far (p := ⟨gb456, _, none⟩) (by first | exact Nat.ne_of_lt (Nat.lt_of_lt_of_le (by have := World.block_lt_of_cell? _ _ hw452_3; first | rwa [add_block] at this | exact this) GW456.out) | (rw [add_block]; exact Nat.ne_of_lt (Nat.lt_of_lt_of_le (by have := World.block_lt_of_cell? _ _ hw452_3; first | rwa [add_block] at this | exact this) GW456.out)) | (show (Addr.add _ _).block ≠ _; rw [add_block]; exact Nat.ne_of_lt (Nat.lt_of_lt_of_le (by have := World.block_lt_of_cell? _ _ hw452_3; first | rwa [add_block] at this | exact this) GW456.out)) | (dsimp only; exact Nat.ne_of_lt (Nat.lt_of_lt_of_le (by have := World.block_lt_of_cell? _ _ hw452_3; first | rwa [add_block] at this | exact this) GW456.out))) _).trans (hHeld.2.2.2.2.2))))⟩ (fun hHeld => ?_)
           clear hK K; refine zP 12 9 13 8191 ?_; refine done_ (by kernel_rfl) ?_; have hnb33 := NB451_441.out; have hnc33 := NB441_451.out; have hnb34 := NB451_456.out; have hnc34 := NB456_451.out; obtain ⟨hcz35_0, hcz35_1, hfz35_0, hfz35_1⟩ := xc2 BK451; have hnb36 := NB456_441.out; have hnc36 := NB441_456.out; obtain ⟨hcz37_0, hcz37_1, hfz37_0, hfz37_1⟩ := xc2 BK456
           try go_wp2_with (first | ((with_reducible refine gate_builtin (b := .append) (xs := #[.tmp 51, .tmp 55]) rfl ?_); at_builtin; refine Kd.R_append k53 (w0 := w) w.heap.size rfl (.tmp 51) (.tmp 55) 22 53 (.agg #[(.int .i64 0), (.int .i64 0), (.int .i64 0), (.int .i64 0)]) 32 rfl Tryz.underlying22 info53 rfl (by decide) (by omega) u6 x6_2 (⟨(⟨t448, t449⟩ : S24), (⟨t453, t454⟩ : S24)⟩ : S53) [.int .i64 t448, .int .i64 t449, .int .i64 t453, .int .i64 t454] (fun _ => True) (fun _ => False) rfl (by first | (go_simp; done) | (go_simp; rfl)) ?aP (fun _ hk => hk.elim) ?aF ?aO ?aB ?aS ?aL ?_; (case aP => exact k53_mkM _ _ _ (⟨(⟨t448, t449⟩ : S24), (⟨t453, t454⟩ : S24)⟩ : S53)); (case aB => exact bz); (case aF => exact (fun _ _ => trivial)); (case aO => exact (by (with_reducible repeat (first | apply Kd.R_alloc | apply Kd.R_drewN | apply Kd.R_drew)); exact Kd.R_mono (Kd.R_far (p := ⟨gb456, 1, none⟩) (Kd.R_far (p := ⟨gb456, 0, none⟩) (Kd.R_types HO_6.out BK456.out (by decide)) (fun _ hk => hk.2) (.int .i64 t453)) (fun _ hk => hk.2) (.int .i64 t454)) (fun _ hk => trivial))); (case aS => exact sz); (case aL => have := LMc19.out; omega); intro v458 w38 ho hb hg hat; rw [← Ny457.out] at ho; replace BK441 := Aside0.mk (blk_grown (g := gb441) (o := .cells #[.int .i64 a1_0, .int .i64 a1_1] 24 (0, 0)) (by (with_reducible repeat (first | refine blk_drewN ?_ _ | refine blk_drew ?_ | refine blk_alloc ?_ _)); refine blk_far ?_ NB441_456.out _; (with_reducible repeat (first | refine blk_drewN ?_ _ | refine blk_drew ?_ | refine blk_alloc ?_ _)); refine blk_far ?_ NB441_456.out _; (with_reducible repeat (first | refine blk_drewN ?_ _ | refine blk_drew ?_ | refine blk_alloc ?_ _)); exact BK441.out) hg (Kd.R_ne HO_6.out BK441.out (by decide))); replace BK451 := Aside0.mk (blk_grown (g := gb451) (o := .cells #[.int .i64 t448, .int .i64 t449] 24 (0, 0)) (by (with_reducible repeat (first | refine blk_drewN ?_ _ | refine blk_drew ?_ | refine blk_alloc ?_ _)); refine blk_far ?_ NB451_456.out _; (with_reducible repeat (first | refine blk_drewN ?_ _ | refine blk_drew ?_ | refine blk_alloc ?_ _)); refine blk_far ?_ NB451_456.out _; (with_reducible repeat (first | refine blk_drewN ?_ _ | refine blk_drew ?_ | refine blk_alloc ?_ _)); exact BK451.out) hg (Kd.R_ne HO_6.out BK451.out (by decide))); replace BK456 := Aside0.mk (blk_grown (g := gb456) (o := .cells #[.int .i64 t453, .int .i64 t454] 24 (0, 0)) (by (with_reducible repeat (first | refine blk_drewN ?_ _ | refine blk_drew ?_ | refine blk_alloc ?_ _)); refine blk_put (cs := #[.int .i64 t453, .int .i64 0]) ?_ 1 _ rfl; (with_reducible repeat (first | refine blk_drewN ?_ _ | refine blk_drew ?_ | refine blk_alloc ?_ _)); refine blk_put (cs := #[.int .i64 0, .int .i64 0]) ?_ 0 _ rfl; (with_reducible repeat (first | refine blk_drewN ?_ _ | refine blk_drew ?_ | refine blk_alloc ?_ _)); exact BK456.out) hg (Kd.R_ne HO_6.out BK456.out (by decide))); replace HB := Aside0.mk (hb); have HO459 := Aside0.mk (ho); clear HO_6; clear ho hb hg hat))
           go_roundg k2
           case measure => have := HJ2.out; have := HK2.out; omega
           case rel => exact ⟨(y457), (wrap64 (x7_2 + 1)), jz, H', ⟨by have := HJ2.out; have := HK2.out; omega⟩, ⟨rz HO459⟩, ⟨kz⟩, ⟨bz⟩⟩
          ·rw [if_neg c19] at H
           exact absurd H (by simp)
         ·rw [if_neg c18] at H; have c18b0 : (t455 == 0) = false := beq_eq_false_iff_ne.mpr c18; have c18b1 : (t455 != 0) = true := bne_iff_ne.mpr c18; simp only [Option.some.injEq, Prod.mk.injEq] at H; obtain ⟨rfl, rfl⟩ := H
          try go_wp2
          replace HO_6 := Aside0.mk (Kd.R_drew HO_6.out); replace BK441 := Aside0.mk (blk_drew BK441.out); replace HB := Aside0.mk (below_drew1 HB.out); have p447 : 0 ≤ (x7_2 : Int) := od; have q447 : x7_2 < (l0.length : Int) := od; obtain ⟨ad447, e447, hx447_0, hx447_1, hx447_2, hx447_3⟩ := at_T53 HR0.out x7_2 p447 q447; have hw447_3 := hx447_3; have hw447_2 := hx447_2; have hw447_1 := hx447_1; have hw447_0 := hx447_0
          cases e447
          replace hx447_0 := cl HB hx447_0; replace hx447_1 := cl HB hx447_1; replace hx447_2 := cl HB hx447_2; replace hx447_3 := cl HB hx447_3; replace p447 := eq_true p447; replace q447 := eq_true q447; refine start_ (n := 13) (S := fun w' => w'.cell? ⟨gb441, 0, none⟩ = some (.int .i64 a1_0) ∧ w'.cell? ⟨gb441, 1, none⟩ = some (.int .i64 a1_1) ∧ w'.cell? (ad447.add ((x7_2).toNat * 4)) = some (.int .i64 ((rd_T53 l0 x7_2).f0.f0)) ∧ w'.cell? ⟨(ad447.add ((x7_2).toNat * 4)).block, (ad447.add ((x7_2).toNat * 4)).off + 1, none⟩ = some (.int .i64 ((rd_T53 l0 x7_2).f0.f1)) ∧ w'.cell? ⟨(ad447.add ((x7_2).toNat * 4)).block, (ad447.add ((x7_2).toNat * 4)).off + 2, none⟩ = some (.int .i64 ((rd_T53 l0 x7_2).f1.f0)) ∧ w'.cell? ⟨(ad447.add ((x7_2).toNat * 4)).block, (ad447.add ((x7_2).toNat * 4)).off + 3, none⟩ = some (.int .i64 ((rd_T53 l0 x7_2).f1.f1))) (ds := []) (bs 13 0) (by kernel_rfl) rfl rfl ⟨ct BK441 0, ct BK441 1, (cl HB hw447_0), (cl HB hw447_1), (cl HB hw447_2), (cl HB hw447_3)⟩ (fun hHeld => ?_)
          generalize wr.drew = w39 at HO_6 BK441 HB hx447_0 hx447_1 hx447_2 hx447_3 hHeld ⊢; refine zP 0 26 13 1 ?_; refine zP 1 27 13 3 ?_; refine zP 2 28 13 7 ?_; refine zP 3 29 13 15 ?_; refine zT 4 30 13 31 hHeld ?_; refine zT 5 31 13 63 hHeld ?_; refine join_ (σ := Nat) 2 (bs 13 2047) (fun s_ => [(32, .tuple #[.agg #[.int .i64 t448, .int .i64 t449], .int .i64 t450]), (8, .pointer (some ⟨s_, 0, none⟩)), (25, .tuple #[.agg #[.int .i64 t448, .int .i64 t449], .int .i64 t450]), (33, .agg #[.int .i64 t448, .int .i64 t449]), (34, .int .i64 t450)]) (fun s_ w' => (w'.cell? ⟨gb441, 0, none⟩ = some (.int .i64 a1_0) ∧ w'.cell? ⟨gb441, 1, none⟩ = some (.int .i64 a1_1) ∧ w'.cell? (ad447.add ((x7_2).toNat * 4)) = some (.int .i64 ((rd_T53 l0 x7_2).f0.f0)) ∧ w'.cell? ⟨(ad447.add ((x7_2).toNat * 4)).block, (ad447.add ((x7_2).toNat * 4)).off + 1, none⟩ = some (.int .i64 ((rd_T53 l0 x7_2).f0.f1)) ∧ w'.cell? ⟨(ad447.add ((x7_2).toNat * 4)).block, (ad447.add ((x7_2).toNat * 4)).off + 2, none⟩ = some (.int .i64 ((rd_T53 l0 x7_2).f1.f0)) ∧ w'.cell? ⟨(ad447.add ((x7_2).toNat * 4)).block, (ad447.add ((x7_2).toNat * 4)).off + 3, none⟩ = some (.int .i64 ((rd_T53 l0 x7_2).f1.f1))) ∧ (Kd.R k53 53 w' w.heap.size (fun _ => True) u6 x6_2) ∧ (w'.heap[gb441]? = some (.cells #[.int .i64 a1_0, .int .i64 a1_1] 24 (0, 0))) ∧ (w'.heap[s_]? = some (.cells #[.int .i64 0, .int .i64 0] 24 (0, 0))) ∧ (w.heap.size ≤ s_) ∧ (w.heap.size ≤ s_) ∧ (gb441 ≠ s_) ∧ (s_ ≠ gb441) ∧ (Below w.heap.size w w')) ?_ ?_
          rotate_left
          ·intro hCont; refine two_ (i := 6) (j := 10) (Ni := some 32) (Nj := some 8) (bs 13 127) (bs 13 1087) rfl rfl rfl rfl (by kernel_rfl) (by decide) (by decide) (fun K hK => ?_) (fun K hK => ?_)
           ·skip
            refine zG Tryz.func43 #[.agg #[.int .i64 ((rd_T53 l0 x7_2).f0.f0), .int .i64 ((rd_T53 l0 x7_2).f0.f1)], .agg #[.int .i64 a1_0, .int .i64 a1_1]] ?_
            with_reducible refine (dioramaref02_Add.calls k2 ((rd_T53 l0 x7_2).f0.f0) ((rd_T53 l0 x7_2).f0.f1) a1_0 a1_1 t448 t449 t450 _ A15.out).mono ?_
            rintro e w40 ⟨rfl, hb⟩; refine ⟨_, rfl, ?_⟩; replace HO_6 := Aside0.mk (Kd.R_below (rz HO_6) hb); replace BK441 := kb BK441 hb; replace HB := bp hb; clear hb; refine hK.out _ _ ⟨ct BK441 0, ct BK441 1, (cl HB hw447_0), (cl HB hw447_1), (cl HB hw447_2), (cl HB hw447_3)⟩ (fun hHeld => ?_); clear hK K; refine zM 32 ?_; refine zP 7 25 13 255 ?_; refine zP 8 33 13 511 ?_; refine zP 9 34 13 1023 ?_; refine zN 10 (some 8) 13 2047 (fun K hK => ?_); refine box_step ?hg (N := 8) ?hd (cs := #[.int .i64 0, .int .i64 0]) (t := 24) ?hr ?_; (case hd => rfl); (case hg => rfl); (case hr => first | (go_simp; done) | (go_simp; rfl))
            intro gb451 hg w41 hbox hb; replace HO_6 := Aside0.mk (Kd.R_below (rz HO_6) hb); have BK451 := Aside0.mk hbox; have GW451 := gz hg; have GE451 := gz hg; replace HB := bp hb; have NB441_451 := Aside0.mk ((by rw [hg]; exact Nat.ne_of_lt (bl BK441) : gb441 ≠ gb451)); have NB451_441 := Aside0.mk ((by rw [hg]; exact Nat.ne_of_gt (bl BK441) : gb451 ≠ gb441)); replace BK441 := kb BK441 hb; clear hb hbox hg; refine hK.out _ _ ⟨ct BK441 0, ct BK441 1, (cl HB hw447_0), (cl HB hw447_1), (cl HB hw447_2), (cl HB hw447_3)⟩ (fun hHeld => ?_); clear hK K; refine zM 8 ?_
            exact norm_ (by simp only [putAll, Act.put, List.setIfInBounds_toArray, List.set_cons_zero, List.set_cons_succ]) (hCont (gb451) _ ⟨hHeld, (rz HO_6), kz, kz, GW451.out, GE451.out, NB441_451.out, NB451_441.out, bz⟩)
           ·skip
            refine box_step ?hg (N := 8) ?hd (cs := #[.int .i64 0, .int .i64 0]) (t := 24) ?hr ?_; (case hd => rfl); (case hg => rfl); (case hr => first | (go_simp; done) | (go_simp; rfl))
            intro gb451 hg w40 hbox hb; replace HO_6 := Aside0.mk (Kd.R_below (rz HO_6) hb); have BK451 := Aside0.mk hbox; have GW451 := gz hg; have GE451 := gz hg; replace HB := bp hb; have NB441_451 := Aside0.mk ((by rw [hg]; exact Nat.ne_of_lt (bl BK441) : gb441 ≠ gb451)); have NB451_441 := Aside0.mk ((by rw [hg]; exact Nat.ne_of_gt (bl BK441) : gb451 ≠ gb441)); replace BK441 := kb BK441 hb; clear hb hbox hg; refine hK.out _ _ ⟨ct BK441 0, ct BK441 1, (cl HB hw447_0), (cl HB hw447_1), (cl HB hw447_2), (cl HB hw447_3)⟩ (fun hHeld => ?_); clear hK K; refine zM 8 ?_; refine zN 6 (some 32) 13 1151 (fun K hK => ?_); refine zG Tryz.func43 #[.agg #[.int .i64 ((rd_T53 l0 x7_2).f0.f0), .int .i64 ((rd_T53 l0 x7_2).f0.f1)], .agg #[.int .i64 a1_0, .int .i64 a1_1]] ?_
            with_reducible refine (dioramaref02_Add.calls k2 ((rd_T53 l0 x7_2).f0.f0) ((rd_T53 l0 x7_2).f0.f1) a1_0 a1_1 t448 t449 t450 _ A15.out).mono ?_
            rintro e w41 ⟨rfl, hb⟩; refine ⟨_, rfl, ?_⟩; replace HO_6 := Aside0.mk (Kd.R_below (rz HO_6) hb); replace BK441 := kb BK441 hb; replace BK451 := kb BK451 hb; replace HB := bp hb; clear hb; refine hK.out _ _ ⟨ct BK441 0, ct BK441 1, (cl HB hw447_0), (cl HB hw447_1), (cl HB hw447_2), (cl HB hw447_3)⟩ (fun hHeld => ?_); clear hK K; refine zM 32 ?_; refine zP 7 25 13 1279 ?_; refine zP 8 33 13 1535 ?_; refine zP 9 34 13 2047 ?_
            exact norm_ (by simp only [putAll, Act.put, List.setIfInBounds_toArray, List.set_cons_zero, List.set_cons_succ]) (hCont (gb451) _ ⟨hHeld, (rz HO_6), kz, kz, GW451.out, GE451.out, NB441_451.out, NB451_441.out, bz⟩)
          rintro gb451 w42 ⟨hS_, h0_, h1_, h2_, h3_, h4_, h5_, h6_, h7_⟩; have n0_ : Aside0 (Kd.R k53 53 w42 w.heap.size (fun _ => True) u6 x6_2) := ⟨h0_⟩; have n1_ : Aside0 (w42.heap[gb441]? = some (.cells #[.int .i64 a1_0, .int .i64 a1_1] 24 (0, 0))) := ⟨h1_⟩; have n2_ : Aside0 (w42.heap[gb451]? = some (.cells #[.int .i64 0, .int .i64 0] 24 (0, 0))) := ⟨h2_⟩; have n3_ : Aside0 (w.heap.size ≤ gb451) := ⟨h3_⟩; have n4_ : Aside0 (w.heap.size ≤ gb451) := ⟨h4_⟩; have n5_ : Aside0 (gb441 ≠ gb451) := ⟨h5_⟩; have n6_ : Aside0 (gb451 ≠ gb441) := ⟨h6_⟩; have n7_ : Aside0 (Below w.heap.size w w42) := ⟨h7_⟩; clear HO_6; clear BK441; clear HB; clear h0_ h1_ h2_ h3_ h4_ h5_ h6_ h7_; have HO_6 := n0_; have BK441 := n1_; have BK451 := n2_; have GW451 := n3_; have GE451 := n4_; have NB441_451 := n5_; have NB451_441 := n6_; have HB := n7_; clear n0_ n1_ n2_ n3_ n4_ n5_ n6_ n7_; have hHeld : w42.cell? ⟨gb441, 0, none⟩ = some (.int .i64 a1_0) ∧ w42.cell? ⟨gb441, 1, none⟩ = some (.int .i64 a1_1) ∧ w42.cell? (ad447.add ((x7_2).toNat * 4)) = some (.int .i64 ((rd_T53 l0 x7_2).f0.f0)) ∧ w42.cell? ⟨(ad447.add ((x7_2).toNat * 4)).block, (ad447.add ((x7_2).toNat * 4)).off + 1, none⟩ = some (.int .i64 ((rd_T53 l0 x7_2).f0.f1)) ∧ w42.cell? ⟨(ad447.add ((x7_2).toNat * 4)).block, (ad447.add ((x7_2).toNat * 4)).off + 2, none⟩ = some (.int .i64 ((rd_T53 l0 x7_2).f1.f0)) ∧ w42.cell? ⟨(ad447.add ((x7_2).toNat * 4)).block, (ad447.add ((x7_2).toNat * 4)).off + 3, none⟩ = some (.int .i64 ((rd_T53 l0 x7_2).f1.f1)) := hS_; refine norm_ (a' := ?_) ?_ ?_
          rotate_left
          ·simp only [putAll, Act.put, List.setIfInBounds_toArray, List.set_cons_zero, List.set_cons_succ]
           rfl
          refine zN 11 none 13 4095 (fun K hK => ?_); have hs43 : w42.cell? ⟨gb451, 0, none⟩ = some (.int .i64 0) := ct BK451 0; have hfs43 := blk_frozen BK451.out 0; have hns43_0 := NB441_451.out; have hms43_0 := NB451_441.out; have hs44 : w42.cell? ⟨gb451, 1, none⟩ = some (.int .i64 0) := ct BK451 1; have hfs44 := blk_frozen BK451.out 1; have hns44_0 := NB441_451.out; have hms44_0 := NB451_441.out; refine skip_ (w1 := ?_) (by rfl) rfl ?_ ?_
          rotate_left
          ·go_simp
           rfl
          refine hK.out _ _ ⟨((cell_far (p := ⟨gb451, _, none⟩) NB441_451.out _).trans (((cell_far (p := ⟨gb451, _, none⟩) NB441_451.out _).trans (hHeld.1)))), ((cell_far (p := ⟨gb451, _, none⟩) NB441_451.out _).trans (((cell_far (p := ⟨gb451, _, none⟩) NB441_451.out _).trans (hHeld.2.1)))), ((cell_far (p := ⟨gb451, _, none⟩) (by first | exact Nat.ne_of_lt (Nat.lt_of_lt_of_le (by have := World.block_lt_of_cell? _ _ hw447_0; first | rwa [add_block] at this | exact this) GW451.out) | (rw [add_block]; exact Nat.ne_of_lt (Nat.lt_of_lt_of_le (by have := World.block_lt_of_cell? _ _ hw447_0; first | rwa [add_block] at this | exact this) GW451.out)) | (show (Addr.add _ _).block ≠ _; rw [add_block]; exact Nat.ne_of_lt (Nat.lt_of_lt_of_le (by have := World.block_lt_of_cell? _ _ hw447_0; first | rwa [add_block] at this | exact this) GW451.out)) | (dsimp only; exact Nat.ne_of_lt (Nat.lt_of_lt_of_le (by have := World.block_lt_of_cell? _ _ hw447_0; first | rwa [add_block] at this | exact this) GW451.out))) _).trans (((cell_far (p := ⟨gb451, _, none⟩) (by first | exact Nat.ne_of_lt (Nat.lt_of_lt_of_le (by have := World.block_lt_of_cell? _ _ hw447_0; first | rwa [add_block] at this | exact this) GW451.out) | (rw [add_block]; exact Nat.ne_of_lt (Nat.lt_of_lt_of_le (by have := World.block_lt_of_cell? _ _ hw447_0; first | rwa [add_block] at this | exact this) GW451.out)) | (show (Addr.add _ _).block ≠ _; rw [add_block]; exact Nat.ne_of_lt (Nat.lt_of_lt_of_le (by have := World.block_lt_of_cell? _ _ hw447_0; first | rwa [add_block] at this | exact this) GW451.out)) | (dsimp only; exact Nat.ne_of_lt (Nat.lt_of_lt_of_le (by have := World.block_lt_of_cell? _ _ hw447_0; first | rwa [add_block] at this | exact this) GW451.out))) _).trans (hHeld.2.2.1)))), ((cell_far (p := ⟨gb451, _, none⟩) (by first | exact Nat.ne_of_lt (Nat.lt_of_lt_of_le (by have := World.block_lt_of_cell? _ _ hw447_1; first | rwa [add_block] at this | exact this) GW451.out) | (rw [add_block]; exact Nat.ne_of_lt (Nat.lt_of_lt_of_le (by have := World.block_lt_of_cell? _ _ hw447_1; first | rwa [add_block] at this | exact this) GW451.out)) | (show (Addr.add _ _).block ≠ _; rw [add_block]; exact Nat.ne_of_lt (Nat.lt_of_lt_of_le (by have := World.block_lt_of_cell? _ _ hw447_1; first | rwa [add_block] at this | exact this) GW451.out)) | (dsimp only; exact Nat.ne_of_lt (Nat.lt_of_lt_of_le (by have := World.block_lt_of_cell? _ _ hw447_1; first | rwa [add_block] at this | exact this) GW451.out))) _).trans (((cell_far (p := ⟨gb451, _, none⟩) (by first | exact Nat.ne_of_lt (Nat.lt_of_lt_of_le (by have := World.block_lt_of_cell? _ _ hw447_1; first | rwa [add_block] at this | exact this) GW451.out) | (rw [add_block]; exact Nat.ne_of_lt (Nat.lt_of_lt_of_le (by have := World.block_lt_of_cell? _ _ hw447_1; first | rwa [add_block] at this | exact this) GW451.out)) | (show (Addr.add _ _).block ≠ _; rw [add_block]; exact Nat.ne_of_lt (Nat.lt_of_lt_of_le (by have := World.block_lt_of_cell? _ _ hw447_1; first | rwa [add_block] at this | exact this) GW451.out)) | (dsimp only; exact Nat.ne_of_lt (Nat.lt_of_lt_of_le (by have := World.block_lt_of_cell? _ _ hw447_1; first | rwa [add_block] at this | exact this) GW451.out))) _).trans (hHeld.2.2.2.1)))), ((cell_far (p := ⟨gb451, _, none⟩) (by first | exact Nat.ne_of_lt (Nat.lt_of_lt_of_le (by have := World.block_lt_of_cell? _ _ hw447_2; first | rwa [add_block] at this | exact this) GW451.out) | (rw [add_block]; exact Nat.ne_of_lt (Nat.lt_of_lt_of_le (by have := World.block_lt_of_cell? _ _ hw447_2; first | rwa [add_block] at this | exact this) GW451.out)) | (show (Addr.add _ _).block ≠ _; rw [add_block]; exact Nat.ne_of_lt (Nat.lt_of_lt_of_le (by have := World.block_lt_of_cell? _ _ hw447_2; first | rwa [add_block] at this | exact this) GW451.out)) | (dsimp only; exact Nat.ne_of_lt (Nat.lt_of_lt_of_le (by have := World.block_lt_of_cell? _ _ hw447_2; first | rwa [add_block] at this | exact this) GW451.out))) _).trans (((cell_far (p := ⟨gb451, _, none⟩) (by first | exact Nat.ne_of_lt (Nat.lt_of_lt_of_le (by have := World.block_lt_of_cell? _ _ hw447_2; first | rwa [add_block] at this | exact this) GW451.out) | (rw [add_block]; exact Nat.ne_of_lt (Nat.lt_of_lt_of_le (by have := World.block_lt_of_cell? _ _ hw447_2; first | rwa [add_block] at this | exact this) GW451.out)) | (show (Addr.add _ _).block ≠ _; rw [add_block]; exact Nat.ne_of_lt (Nat.lt_of_lt_of_le (by have := World.block_lt_of_cell? _ _ hw447_2; first | rwa [add_block] at this | exact this) GW451.out)) | (dsimp only; exact Nat.ne_of_lt (Nat.lt_of_lt_of_le (by have := World.block_lt_of_cell? _ _ hw447_2; first | rwa [add_block] at this | exact this) GW451.out))) _).trans (hHeld.2.2.2.2.1)))), ((cell_far (p := ⟨gb451, _, none⟩) (by first | exact Nat.ne_of_lt (Nat.lt_of_lt_of_le (by have := World.block_lt_of_cell? _ _ hw447_3; first | rwa [add_block] at this | exact this) GW451.out) | (rw [add_block]; exact Nat.ne_of_lt (Nat.lt_of_lt_of_le (by have := World.block_lt_of_cell? _ _ hw447_3; first | rwa [add_block] at this | exact this) GW451.out)) | (show (Addr.add _ _).block ≠ _; rw [add_block]; exact Nat.ne_of_lt (Nat.lt_of_lt_of_le (by have := World.block_lt_of_cell? _ _ hw447_3; first | rwa [add_block] at this | exact this) GW451.out)) | (dsimp only; exact Nat.ne_of_lt (Nat.lt_of_lt_of_le (by have := World.block_lt_of_cell? _ _ hw447_3; first | rwa [add_block] at this | exact this) GW451.out))) _).trans (((cell_far (p := ⟨gb451, _, none⟩) (by first | exact Nat.ne_of_lt (Nat.lt_of_lt_of_le (by have := World.block_lt_of_cell? _ _ hw447_3; first | rwa [add_block] at this | exact this) GW451.out) | (rw [add_block]; exact Nat.ne_of_lt (Nat.lt_of_lt_of_le (by have := World.block_lt_of_cell? _ _ hw447_3; first | rwa [add_block] at this | exact this) GW451.out)) | (show (Addr.add _ _).block ≠ _; rw [add_block]; exact Nat.ne_of_lt (Nat.lt_of_lt_of_le (by have := World.block_lt_of_cell? _ _ hw447_3; first | rwa [add_block] at this | exact this) GW451.out)) | (dsimp only; exact Nat.ne_of_lt (Nat.lt_of_lt_of_le (by have := World.block_lt_of_cell? _ _ hw447_3; first | rwa [add_block] at this | exact this) GW451.out))) _).trans (hHeld.2.2.2.2.2))))⟩ (fun hHeld => ?_)
          clear hK K; refine zP 12 9 13 8191 ?_; refine done_ (by kernel_rfl) ?_
          try go_wp2
          have n0_ : Aside0 (Kd.R k53 53 ((w42.setCell ⟨gb451, 0, none⟩ (.int .i64 t448)).setCell ⟨gb451, 1, none⟩ (.int .i64 t449)) w.heap.size (fun _ => True) u6 x6_2) := ⟨by (with_reducible repeat (first | apply Kd.R_alloc | apply Kd.R_drewN | apply Kd.R_drew)); exact Kd.R_mono (Kd.R_far (p := ⟨gb451, 1, none⟩) (Kd.R_far (p := ⟨gb451, 0, none⟩) (Kd.R_types HO_6.out BK451.out (by decide)) (fun _ hk => hk.2) (.int .i64 t448)) (fun _ hk => hk.2) (.int .i64 t449)) (fun _ hk => trivial)⟩; have n1_ : Aside0 (((w42.setCell ⟨gb451, 0, none⟩ (.int .i64 t448)).setCell ⟨gb451, 1, none⟩ (.int .i64 t449)).heap[gb441]? = some (.cells #[.int .i64 a1_0, .int .i64 a1_1] 24 (0, 0))) := ⟨by (with_reducible repeat (first | refine blk_drewN ?_ _ | refine blk_drew ?_ | refine blk_alloc ?_ _)); refine blk_far ?_ NB441_451.out _; (with_reducible repeat (first | refine blk_drewN ?_ _ | refine blk_drew ?_ | refine blk_alloc ?_ _)); refine blk_far ?_ NB441_451.out _; (with_reducible repeat (first | refine blk_drewN ?_ _ | refine blk_drew ?_ | refine blk_alloc ?_ _)); exact BK441.out⟩; have n2_ : Aside0 (((w42.setCell ⟨gb451, 0, none⟩ (.int .i64 t448)).setCell ⟨gb451, 1, none⟩ (.int .i64 t449)).heap[gb451]? = some (.cells #[.int .i64 t448, .int .i64 t449] 24 (0, 0))) := ⟨by (with_reducible repeat (first | refine blk_drewN ?_ _ | refine blk_drew ?_ | refine blk_alloc ?_ _)); refine blk_put (cs := #[.int .i64 t448, .int .i64 0]) ?_ 1 _ rfl; (with_reducible repeat (first | refine blk_drewN ?_ _ | refine blk_drew ?_ | refine blk_alloc ?_ _)); refine blk_put (cs := #[.int .i64 0, .int .i64 0]) ?_ 0 _ rfl; (with_reducible repeat (first | refine blk_drewN ?_ _ | refine blk_drew ?_ | refine blk_alloc ?_ _)); exact BK451.out⟩; have n3_ : Aside0 (Below w.heap.size w ((w42.setCell ⟨gb451, 0, none⟩ (.int .i64 t448)).setCell ⟨gb451, 1, none⟩ (.int .i64 t449))) := ⟨bz⟩
          (try clear HO_6)
          (try clear BK441)
          (try clear BK451)
          (try clear HB)
          generalize ((w42.setCell ⟨gb451, 0, none⟩ (.int .i64 t448)).setCell ⟨gb451, 1, none⟩ (.int .i64 t449)) = w45 at n0_ n1_ n2_ n3_ ⊢; have HO_6 := n0_; have BK441 := n1_; have BK451 := n2_; have HB := n3_; clear n0_ n1_ n2_ n3_; replace HO_6 := Aside0.mk (Kd.R_drew HO_6.out); replace BK441 := Aside0.mk (blk_drew BK441.out); replace BK451 := Aside0.mk (blk_drew BK451.out); replace HB := Aside0.mk (below_drew1 HB.out); have p452 : 0 ≤ (x7_2 : Int) := od; have q452 : x7_2 < (l0.length : Int) := od; obtain ⟨ad452, e452, hx452_0, hx452_1, hx452_2, hx452_3⟩ := at_T53 HR0.out x7_2 p452 q452; have hw452_3 := hx452_3; have hw452_2 := hx452_2; have hw452_1 := hx452_1; have hw452_0 := hx452_0; obtain rfl : ad447 = ad452 := (by injection e452); replace hx452_0 := cl HB hx452_0; replace hx452_1 := cl HB hx452_1; replace hx452_2 := cl HB hx452_2; replace hx452_3 := cl HB hx452_3; replace p452 := eq_true p452; replace q452 := eq_true q452; refine start_ (n := 13) (S := fun w' => w'.cell? ⟨gb441, 0, none⟩ = some (.int .i64 a1_0) ∧ w'.cell? ⟨gb441, 1, none⟩ = some (.int .i64 a1_1) ∧ w'.cell? (ad447.add ((x7_2).toNat * 4)) = some (.int .i64 ((rd_T53 l0 x7_2).f0.f0)) ∧ w'.cell? ⟨(ad447.add ((x7_2).toNat * 4)).block, (ad447.add ((x7_2).toNat * 4)).off + 1, none⟩ = some (.int .i64 ((rd_T53 l0 x7_2).f0.f1)) ∧ w'.cell? ⟨(ad447.add ((x7_2).toNat * 4)).block, (ad447.add ((x7_2).toNat * 4)).off + 2, none⟩ = some (.int .i64 ((rd_T53 l0 x7_2).f1.f0)) ∧ w'.cell? ⟨(ad447.add ((x7_2).toNat * 4)).block, (ad447.add ((x7_2).toNat * 4)).off + 3, none⟩ = some (.int .i64 ((rd_T53 l0 x7_2).f1.f1))) (ds := []) (bs 13 0) (by kernel_rfl) rfl rfl ⟨ct BK441 0, ct BK441 1, (cl HB hw452_0), (cl HB hw452_1), (cl HB hw452_2), (cl HB hw452_3)⟩ (fun hHeld => ?_)
          generalize w45.drew = w46 at HO_6 BK441 BK451 HB hx452_0 hx452_1 hx452_2 hx452_3 hHeld ⊢; refine zP 0 39 13 1 ?_; refine zP 1 40 13 3 ?_; refine zP 2 41 13 7 ?_; refine zP 3 42 13 15 ?_; refine zT 4 43 13 31 hHeld ?_; refine zT 5 44 13 63 hHeld ?_; refine join_ (σ := Nat) 2 (bs 13 2047) (fun s_ => [(45, .tuple #[.agg #[.int .i64 t453, .int .i64 t454], .int .i64 t455]), (10, .pointer (some ⟨s_, 0, none⟩)), (38, .tuple #[.agg #[.int .i64 t453, .int .i64 t454], .int .i64 t455]), (46, .agg #[.int .i64 t453, .int .i64 t454]), (47, .int .i64 t455)]) (fun s_ w' => (w'.cell? ⟨gb441, 0, none⟩ = some (.int .i64 a1_0) ∧ w'.cell? ⟨gb441, 1, none⟩ = some (.int .i64 a1_1) ∧ w'.cell? (ad447.add ((x7_2).toNat * 4)) = some (.int .i64 ((rd_T53 l0 x7_2).f0.f0)) ∧ w'.cell? ⟨(ad447.add ((x7_2).toNat * 4)).block, (ad447.add ((x7_2).toNat * 4)).off + 1, none⟩ = some (.int .i64 ((rd_T53 l0 x7_2).f0.f1)) ∧ w'.cell? ⟨(ad447.add ((x7_2).toNat * 4)).block, (ad447.add ((x7_2).toNat * 4)).off + 2, none⟩ = some (.int .i64 ((rd_T53 l0 x7_2).f1.f0)) ∧ w'.cell? ⟨(ad447.add ((x7_2).toNat * 4)).block, (ad447.add ((x7_2).toNat * 4)).off + 3, none⟩ = some (.int .i64 ((rd_T53 l0 x7_2).f1.f1))) ∧ (Kd.R k53 53 w' w.heap.size (fun _ => True) u6 x6_2) ∧ (w'.heap[gb441]? = some (.cells #[.int .i64 a1_0, .int .i64 a1_1] 24 (0, 0))) ∧ (w'.heap[gb451]? = some (.cells #[.int .i64 t448, .int .i64 t449] 24 (0, 0))) ∧ (w'.heap[s_]? = some (.cells #[.int .i64 0, .int .i64 0] 24 (0, 0))) ∧ (w.heap.size ≤ s_) ∧ (w.heap.size ≤ s_) ∧ (gb441 ≠ s_) ∧ (s_ ≠ gb441) ∧ (gb451 ≠ s_) ∧ (s_ ≠ gb451) ∧ (Below w.heap.size w w')) ?_ ?_
          rotate_left
          ·intro hCont; refine two_ (i := 6) (j := 10) (Ni := some 45) (Nj := some 10) (bs 13 127) (bs 13 1087) rfl rfl rfl rfl (by kernel_rfl) (by decide) (by decide) (fun K hK => ?_) (fun K hK => ?_)
           ·skip
            refine zG Tryz.func43 #[.agg #[.int .i64 ((rd_T53 l0 x7_2).f1.f0), .int .i64 ((rd_T53 l0 x7_2).f1.f1)], .agg #[.int .i64 a1_0, .int .i64 a1_1]] ?_
            with_reducible refine (dioramaref02_Add.calls k2 ((rd_T53 l0 x7_2).f1.f0) ((rd_T53 l0 x7_2).f1.f1) a1_0 a1_1 t453 t454 t455 _ A17.out).mono ?_
            rintro e w47 ⟨rfl, hb⟩; refine ⟨_, rfl, ?_⟩; replace HO_6 := Aside0.mk (Kd.R_below (rz HO_6) hb); replace BK441 := kb BK441 hb; replace BK451 := kb BK451 hb; replace HB := bp hb; clear hb; refine hK.out _ _ ⟨ct BK441 0, ct BK441 1, (cl HB hw452_0), (cl HB hw452_1), (cl HB hw452_2), (cl HB hw452_3)⟩ (fun hHeld => ?_); clear hK K; refine zM 45 ?_; refine zP 7 38 13 255 ?_; refine zP 8 46 13 511 ?_; refine zP 9 47 13 1023 ?_; refine zN 10 (some 10) 13 2047 (fun K hK => ?_); refine box_step ?hg (N := 10) ?hd (cs := #[.int .i64 0, .int .i64 0]) (t := 24) ?hr ?_; (case hd => rfl); (case hg => rfl); (case hr => first | (go_simp; done) | (go_simp; rfl))
            intro gb456 hg w48 hbox hb; replace HO_6 := Aside0.mk (Kd.R_below (rz HO_6) hb); have BK456 := Aside0.mk hbox; have GW456 := gz hg; have GE456 := gz hg; replace HB := bp hb; have NB441_456 := Aside0.mk ((by rw [hg]; exact Nat.ne_of_lt (bl BK441) : gb441 ≠ gb456)); have NB456_441 := Aside0.mk ((by rw [hg]; exact Nat.ne_of_gt (bl BK441) : gb456 ≠ gb441)); replace BK441 := kb BK441 hb; have NB451_456 := Aside0.mk ((by rw [hg]; exact Nat.ne_of_lt (bl BK451) : gb451 ≠ gb456)); have NB456_451 := Aside0.mk ((by rw [hg]; exact Nat.ne_of_gt (bl BK451) : gb456 ≠ gb451)); replace BK451 := kb BK451 hb; clear hb hbox hg; refine hK.out _ _ ⟨ct BK441 0, ct BK441 1, (cl HB hw452_0), (cl HB hw452_1), (cl HB hw452_2), (cl HB hw452_3)⟩ (fun hHeld => ?_); clear hK K; refine zM 10 ?_
            exact norm_ (by simp only [putAll, Act.put, List.setIfInBounds_toArray, List.set_cons_zero, List.set_cons_succ]) (hCont (gb456) _ ⟨hHeld, (rz HO_6), kz, kz, kz, GW456.out, GE456.out, NB441_456.out, NB456_441.out, NB451_456.out, NB456_451.out, bz⟩)
           ·skip
            refine box_step ?hg (N := 10) ?hd (cs := #[.int .i64 0, .int .i64 0]) (t := 24) ?hr ?_; (case hd => rfl); (case hg => rfl); (case hr => first | (go_simp; done) | (go_simp; rfl))
            intro gb456 hg w47 hbox hb; replace HO_6 := Aside0.mk (Kd.R_below (rz HO_6) hb); have BK456 := Aside0.mk hbox; have GW456 := gz hg; have GE456 := gz hg; replace HB := bp hb; have NB441_456 := Aside0.mk ((by rw [hg]; exact Nat.ne_of_lt (bl BK441) : gb441 ≠ gb456)); have NB456_441 := Aside0.mk ((by rw [hg]; exact Nat.ne_of_gt (bl BK441) : gb456 ≠ gb441)); replace BK441 := kb BK441 hb; have NB451_456 := Aside0.mk ((by rw [hg]; exact Nat.ne_of_lt (bl BK451) : gb451 ≠ gb456)); have NB456_451 := Aside0.mk ((by rw [hg]; exact Nat.ne_of_gt (bl BK451) : gb456 ≠ gb451)); replace BK451 := kb BK451 hb; clear hb hbox hg; refine hK.out _ _ ⟨ct BK441 0, ct BK441 1, (cl HB hw452_0), (cl HB hw452_1), (cl HB hw452_2), (cl HB hw452_3)⟩ (fun hHeld => ?_); clear hK K; refine zM 10 ?_; refine zN 6 (some 45) 13 1151 (fun K hK => ?_); refine zG Tryz.func43 #[.agg #[.int .i64 ((rd_T53 l0 x7_2).f1.f0), .int .i64 ((rd_T53 l0 x7_2).f1.f1)], .agg #[.int .i64 a1_0, .int .i64 a1_1]] ?_
            with_reducible refine (dioramaref02_Add.calls k2 ((rd_T53 l0 x7_2).f1.f0) ((rd_T53 l0 x7_2).f1.f1) a1_0 a1_1 t453 t454 t455 _ A17.out).mono ?_
            rintro e w48 ⟨rfl, hb⟩; refine ⟨_, rfl, ?_⟩; replace HO_6 := Aside0.mk (Kd.R_below (rz HO_6) hb); replace BK441 := kb BK441 hb; replace BK451 := kb BK451 hb; replace BK456 := kb BK456 hb; replace HB := bp hb; clear hb; refine hK.out _ _ ⟨ct BK441 0, ct BK441 1, (cl HB hw452_0), (cl HB hw452_1), (cl HB hw452_2), (cl HB hw452_3)⟩ (fun hHeld => ?_); clear hK K; refine zM 45 ?_; refine zP 7 38 13 1279 ?_; refine zP 8 46 13 1535 ?_; refine zP 9 47 13 2047 ?_
            exact norm_ (by simp only [putAll, Act.put, List.setIfInBounds_toArray, List.set_cons_zero, List.set_cons_succ]) (hCont (gb456) _ ⟨hHeld, (rz HO_6), kz, kz, kz, GW456.out, GE456.out, NB441_456.out, NB456_441.out, NB451_456.out, NB456_451.out, bz⟩)
          rintro gb456 w49 ⟨hS_, h0_, h1_, h2_, h3_, h4_, h5_, h6_, h7_, h8_, h9_, h10_⟩; have n0_ : Aside0 (Kd.R k53 53 w49 w.heap.size (fun _ => True) u6 x6_2) := ⟨h0_⟩; have n1_ : Aside0 (w49.heap[gb441]? = some (.cells #[.int .i64 a1_0, .int .i64 a1_1] 24 (0, 0))) := ⟨h1_⟩; have n2_ : Aside0 (w49.heap[gb451]? = some (.cells #[.int .i64 t448, .int .i64 t449] 24 (0, 0))) := ⟨h2_⟩; have n3_ : Aside0 (w49.heap[gb456]? = some (.cells #[.int .i64 0, .int .i64 0] 24 (0, 0))) := ⟨h3_⟩; have n4_ : Aside0 (w.heap.size ≤ gb456) := ⟨h4_⟩; have n5_ : Aside0 (w.heap.size ≤ gb456) := ⟨h5_⟩; have n6_ : Aside0 (gb441 ≠ gb456) := ⟨h6_⟩; have n7_ : Aside0 (gb456 ≠ gb441) := ⟨h7_⟩; have n8_ : Aside0 (gb451 ≠ gb456) := ⟨h8_⟩; have n9_ : Aside0 (gb456 ≠ gb451) := ⟨h9_⟩; have n10_ : Aside0 (Below w.heap.size w w49) := ⟨h10_⟩; clear HO_6; clear BK441; clear BK451; clear HB; clear h0_ h1_ h2_ h3_ h4_ h5_ h6_ h7_ h8_ h9_ h10_; have HO_6 := n0_; have BK441 := n1_; have BK451 := n2_; have BK456 := n3_; have GW456 := n4_; have GE456 := n5_; have NB441_456 := n6_; have NB456_441 := n7_; have NB451_456 := n8_; have NB456_451 := n9_; have HB := n10_; clear n0_ n1_ n2_ n3_ n4_ n5_ n6_ n7_ n8_ n9_ n10_; have hHeld : w49.cell? ⟨gb441, 0, none⟩ = some (.int .i64 a1_0) ∧ w49.cell? ⟨gb441, 1, none⟩ = some (.int .i64 a1_1) ∧ w49.cell? (ad447.add ((x7_2).toNat * 4)) = some (.int .i64 ((rd_T53 l0 x7_2).f0.f0)) ∧ w49.cell? ⟨(ad447.add ((x7_2).toNat * 4)).block, (ad447.add ((x7_2).toNat * 4)).off + 1, none⟩ = some (.int .i64 ((rd_T53 l0 x7_2).f0.f1)) ∧ w49.cell? ⟨(ad447.add ((x7_2).toNat * 4)).block, (ad447.add ((x7_2).toNat * 4)).off + 2, none⟩ = some (.int .i64 ((rd_T53 l0 x7_2).f1.f0)) ∧ w49.cell? ⟨(ad447.add ((x7_2).toNat * 4)).block, (ad447.add ((x7_2).toNat * 4)).off + 3, none⟩ = some (.int .i64 ((rd_T53 l0 x7_2).f1.f1)) := hS_; refine norm_ (a' := ?_) ?_ ?_
          rotate_left
          ·simp only [putAll, Act.put, List.setIfInBounds_toArray, List.set_cons_zero, List.set_cons_succ]
           rfl
          refine zN 11 none 13 4095 (fun K hK => ?_); have hs50 : w49.cell? ⟨gb456, 0, none⟩ = some (.int .i64 0) := ct BK456 0; have hfs50 := blk_frozen BK456.out 0; have hns50_0 := NB441_456.out; have hns50_1 := NB451_456.out; have hms50_0 := NB456_441.out; have hms50_1 := NB456_451.out; have hs51 : w49.cell? ⟨gb456, 1, none⟩ = some (.int .i64 0) := ct BK456 1; have hfs51 := blk_frozen BK456.out 1; have hns51_0 := NB441_456.out; have hns51_1 := NB451_456.out; have hms51_0 := NB456_441.out; have hms51_1 := NB456_451.out; refine skip_ (w1 := ?_) (by rfl) rfl ?_ ?_
          rotate_left
          ·go_simp
           rfl
          refine hK.out _ _ ⟨((cell_far (p := ⟨gb456, _, none⟩) NB441_456.out _).trans (((cell_far (p := ⟨gb456, _, none⟩) NB441_456.out _).trans (hHeld.1)))), ((cell_far (p := ⟨gb456, _, none⟩) NB441_456.out _).trans (((cell_far (p := ⟨gb456, _, none⟩) NB441_456.out _).trans (hHeld.2.1)))), ((cell_far (p := ⟨gb456, _, none⟩) (by first | exact Nat.ne_of_lt (Nat.lt_of_lt_of_le (by have := World.block_lt_of_cell? _ _ hw452_0; first | rwa [add_block] at this | exact this) GW456.out) | (rw [add_block]; exact Nat.ne_of_lt (Nat.lt_of_lt_of_le (by have := World.block_lt_of_cell? _ _ hw452_0; first | rwa [add_block] at this | exact this) GW456.out)) | (show (Addr.add _ _).block ≠ _; rw [add_block]; exact Nat.ne_of_lt (Nat.lt_of_lt_of_le (by have := World.block_lt_of_cell? _ _ hw452_0; first | rwa [add_block] at this | exact this) GW456.out)) | (dsimp only; exact Nat.ne_of_lt (Nat.lt_of_lt_of_le (by have := World.block_lt_of_cell? _ _ hw452_0; first | rwa [add_block] at this | exact this) GW456.out))) _).trans (((cell_far (p := ⟨gb456, _, none⟩) (by first | exact Nat.ne_of_lt (Nat.lt_of_lt_of_le (by have := World.block_lt_of_cell? _ _ hw452_0; first | rwa [add_block] at this | exact this) GW456.out) | (rw [add_block]; exact Nat.ne_of_lt (Nat.lt_of_lt_of_le (by have := World.block_lt_of_cell? _ _ hw452_0; first | rwa [add_block] at this | exact this) GW456.out)) | (show (Addr.add _ _).block ≠ _; rw [add_block]; exact Nat.ne_of_lt (Nat.lt_of_lt_of_le (by have := World.block_lt_of_cell? _ _ hw452_0; first | rwa [add_block] at this | exact this) GW456.out)) | (dsimp only; exact Nat.ne_of_lt (Nat.lt_of_lt_of_le (by have := World.block_lt_of_cell? _ _ hw452_0; first | rwa [add_block] at this | exact this) GW456.out))) _).trans (hHeld.2.2.1)))), ((cell_far (p := ⟨gb456, _, none⟩) (by first | exact Nat.ne_of_lt (Nat.lt_of_lt_of_le (by have := World.block_lt_of_cell? _ _ hw452_1; first | rwa [add_block] at this | exact this) GW456.out) | (rw [add_block]; exact Nat.ne_of_lt (Nat.lt_of_lt_of_le (by have := World.block_lt_of_cell? _ _ hw452_1; first | rwa [add_block] at this | exact this) GW456.out)) | (show (Addr.add _ _).block ≠ _; rw [add_block]; exact Nat.ne_of_lt (Nat.lt_of_lt_of_le (by have := World.block_lt_of_cell? _ _ hw452_1; first | rwa [add_block] at this | exact this) GW456.out)) | (dsimp only; exact Nat.ne_of_lt (Nat.lt_of_lt_of_le (by have := World.block_lt_of_cell? _ _ hw452_1; first | rwa [add_block] at this | exact this) GW456.out))) _).trans (((cell_far (p := ⟨gb456, _, none⟩) (by first | exact Nat.ne_of_lt (Nat.lt_of_lt_of_le (by have := World.block_lt_of_cell? _ _ hw452_1; first | rwa [add_block] at this | exact this) GW456.out) | (rw [add_block]; exact Nat.ne_of_lt (Nat.lt_of_lt_of_le (by have := World.block_lt_of_cell? _ _ hw452_1; first | rwa [add_block] at this | exact this) GW456.out)) | (show (Addr.add _ _).block ≠ _; rw [add_block]; exact Nat.ne_of_lt (Nat.lt_of_lt_of_le (by have := World.block_lt_of_cell? _ _ hw452_1; first | rwa [add_block] at this | exact this) GW456.out)) | (dsimp only; exact Nat.ne_of_lt (Nat.lt_of_lt_of_le (by have := World.block_lt_of_cell? _ _ hw452_1; first | rwa [add_block] at this | exact this) GW456.out))) _).trans (hHeld.2.2.2.1)))), ((cell_far (p := ⟨gb456, _, none⟩) (by first | exact Nat.ne_of_lt (Nat.lt_of_lt_of_le (by have := World.block_lt_of_cell? _ _ hw452_2; first | rwa [add_block] at this | exact this) GW456.out) | (rw [add_block]; exact Nat.ne_of_lt (Nat.lt_of_lt_of_le (by have := World.block_lt_of_cell? _ _ hw452_2; first | rwa [add_block] at this | exact this) GW456.out)) | (show (Addr.add _ _).block ≠ _; rw [add_block]; exact Nat.ne_of_lt (Nat.lt_of_lt_of_le (by have := World.block_lt_of_cell? _ _ hw452_2; first | rwa [add_block] at this | exact this) GW456.out)) | (dsimp only; exact Nat.ne_of_lt (Nat.lt_of_lt_of_le (by have := World.block_lt_of_cell? _ _ hw452_2; first | rwa [add_block] at this | exact this) GW456.out))) _).trans (((cell_far (p := ⟨gb456, _, none⟩) (by first | exact Nat.ne_of_lt (Nat.lt_of_lt_of_le (by have := World.block_lt_of_cell? _ _ hw452_2; first | rwa [add_block] at this | exact this) GW456.out) | (rw [add_block]; exact Nat.ne_of_lt (Nat.lt_of_lt_of_le (by have := World.block_lt_of_cell? _ _ hw452_2; first | rwa [add_block] at this | exact this) GW456.out)) | (show (Addr.add _ _).block ≠ _; rw [add_block]; exact Nat.ne_of_lt (Nat.lt_of_lt_of_le (by have := World.block_lt_of_cell? _ _ hw452_2; first | rwa [add_block] at this | exact this) GW456.out)) | (dsimp only; exact Nat.ne_of_lt (Nat.lt_of_lt_of_le (by have := World.block_lt_of_cell? _ _ hw452_2; first | rwa [add_block] at this | exact this) GW456.out))) _).trans (hHeld.2.2.2.2.1)))), ((cell_far (p := ⟨gb456, _, none⟩) (by first | exact Nat.ne_of_lt (Nat.lt_of_lt_of_le (by have := World.block_lt_of_cell? _ _ hw452_3; first | rwa [add_block] at this | exact this) GW456.out) | (rw [add_block]; exact Nat.ne_of_lt (Nat.lt_of_lt_of_le (by have := World.block_lt_of_cell? _ _ hw452_3; first | rwa [add_block] at this | exact this) GW456.out)) | (show (Addr.add _ _).block ≠ _; rw [add_block]; exact Nat.ne_of_lt (Nat.lt_of_lt_of_le (by have := World.block_lt_of_cell? _ _ hw452_3; first | rwa [add_block] at this | exact this) GW456.out)) | (dsimp only; exact Nat.ne_of_lt (Nat.lt_of_lt_of_le (by have := World.block_lt_of_cell? _ _ hw452_3; first | rwa [add_block] at this | exact this) GW456.out))) _).trans (((cell_far (p := ⟨gb456, _, none⟩) (by first | exact Nat.ne_of_lt (Nat.lt_of_lt_of_le (by have := World.block_lt_of_cell? _ _ hw452_3; first | rwa [add_block] at this | exact this) GW456.out) | (rw [add_block]; exact Nat.ne_of_lt (Nat.lt_of_lt_of_le (by have := World.block_lt_of_cell? _ _ hw452_3; first | rwa [add_block] at this | exact this) GW456.out)) | (show (Addr.add _ _).block ≠ _; rw [add_block]; exact Nat.ne_of_lt (Nat.lt_of_lt_of_le (by have := World.block_lt_of_cell? _ _ hw452_3; first | rwa [add_block] at this | exact this) GW456.out)) | (dsimp only; exact Nat.ne_of_lt (Nat.lt_of_lt_of_le (by have := World.block_lt_of_cell? _ _ hw452_3; first | rwa [add_block] at this | exact this) GW456.out))) _).trans (hHeld.2.2.2.2.2))))⟩ (fun hHeld => ?_)
          clear hK K; refine zP 12 9 13 8191 ?_; refine done_ (by kernel_rfl) ?_
          try go_wp2
          go_ret2
          exact ⟨_, ez, by first | exact Kd.R_nil _ _ _ _ _ | exact Kd.N_nil _ _ _ _ _ | exact Kd.V_nil _ _ _ _ _ | exact Kd.Q_nil _ _ _ _ _ | exact Kd.S_nil _ _ _ _ _, bz⟩
        ·rw [if_neg c16] at H; have c16b0 : (t450 == 0) = false := beq_eq_false_iff_ne.mpr c16; have c16b1 : (t450 != 0) = true := bne_iff_ne.mpr c16; simp only [Option.some.injEq, Prod.mk.injEq] at H; obtain ⟨rfl, rfl⟩ := H
         try go_wp2
         replace HO_6 := Aside0.mk (Kd.R_drew HO_6.out); replace BK441 := Aside0.mk (blk_drew BK441.out); replace HB := Aside0.mk (below_drew1 HB.out); have p447 : 0 ≤ (x7_2 : Int) := od; have q447 : x7_2 < (l0.length : Int) := od; obtain ⟨ad447, e447, hx447_0, hx447_1, hx447_2, hx447_3⟩ := at_T53 HR0.out x7_2 p447 q447; have hw447_3 := hx447_3; have hw447_2 := hx447_2; have hw447_1 := hx447_1; have hw447_0 := hx447_0
         cases e447
         replace hx447_0 := cl HB hx447_0; replace hx447_1 := cl HB hx447_1; replace hx447_2 := cl HB hx447_2; replace hx447_3 := cl HB hx447_3; replace p447 := eq_true p447; replace q447 := eq_true q447; refine start_ (n := 13) (S := fun w' => w'.cell? ⟨gb441, 0, none⟩ = some (.int .i64 a1_0) ∧ w'.cell? ⟨gb441, 1, none⟩ = some (.int .i64 a1_1) ∧ w'.cell? (ad447.add ((x7_2).toNat * 4)) = some (.int .i64 ((rd_T53 l0 x7_2).f0.f0)) ∧ w'.cell? ⟨(ad447.add ((x7_2).toNat * 4)).block, (ad447.add ((x7_2).toNat * 4)).off + 1, none⟩ = some (.int .i64 ((rd_T53 l0 x7_2).f0.f1)) ∧ w'.cell? ⟨(ad447.add ((x7_2).toNat * 4)).block, (ad447.add ((x7_2).toNat * 4)).off + 2, none⟩ = some (.int .i64 ((rd_T53 l0 x7_2).f1.f0)) ∧ w'.cell? ⟨(ad447.add ((x7_2).toNat * 4)).block, (ad447.add ((x7_2).toNat * 4)).off + 3, none⟩ = some (.int .i64 ((rd_T53 l0 x7_2).f1.f1))) (ds := []) (bs 13 0) (by kernel_rfl) rfl rfl ⟨ct BK441 0, ct BK441 1, (cl HB hw447_0), (cl HB hw447_1), (cl HB hw447_2), (cl HB hw447_3)⟩ (fun hHeld => ?_)
         generalize wr.drew = w52 at HO_6 BK441 HB hx447_0 hx447_1 hx447_2 hx447_3 hHeld ⊢; refine zP 0 26 13 1 ?_; refine zP 1 27 13 3 ?_; refine zP 2 28 13 7 ?_; refine zP 3 29 13 15 ?_; refine zT 4 30 13 31 hHeld ?_; refine zT 5 31 13 63 hHeld ?_; refine join_ (σ := Nat) 2 (bs 13 2047) (fun s_ => [(32, .tuple #[.agg #[.int .i64 t448, .int .i64 t449], .int .i64 t450]), (8, .pointer (some ⟨s_, 0, none⟩)), (25, .tuple #[.agg #[.int .i64 t448, .int .i64 t449], .int .i64 t450]), (33, .agg #[.int .i64 t448, .int .i64 t449]), (34, .int .i64 t450)]) (fun s_ w' => (w'.cell? ⟨gb441, 0, none⟩ = some (.int .i64 a1_0) ∧ w'.cell? ⟨gb441, 1, none⟩ = some (.int .i64 a1_1) ∧ w'.cell? (ad447.add ((x7_2).toNat * 4)) = some (.int .i64 ((rd_T53 l0 x7_2).f0.f0)) ∧ w'.cell? ⟨(ad447.add ((x7_2).toNat * 4)).block, (ad447.add ((x7_2).toNat * 4)).off + 1, none⟩ = some (.int .i64 ((rd_T53 l0 x7_2).f0.f1)) ∧ w'.cell? ⟨(ad447.add ((x7_2).toNat * 4)).block, (ad447.add ((x7_2).toNat * 4)).off + 2, none⟩ = some (.int .i64 ((rd_T53 l0 x7_2).f1.f0)) ∧ w'.cell? ⟨(ad447.add ((x7_2).toNat * 4)).block, (ad447.add ((x7_2).toNat * 4)).off + 3, none⟩ = some (.int .i64 ((rd_T53 l0 x7_2).f1.f1))) ∧ (Kd.R k53 53 w' w.heap.size (fun _ => True) u6 x6_2) ∧ (w'.heap[gb441]? = some (.cells #[.int .i64 a1_0, .int .i64 a1_1] 24 (0, 0))) ∧ (w'.heap[s_]? = some (.cells #[.int .i64 0, .int .i64 0] 24 (0, 0))) ∧ (w.heap.size ≤ s_) ∧ (w.heap.size ≤ s_) ∧ (gb441 ≠ s_) ∧ (s_ ≠ gb441) ∧ (Below w.heap.size w w')) ?_ ?_
         rotate_left
         ·intro hCont; refine two_ (i := 6) (j := 10) (Ni := some 32) (Nj := some 8) (bs 13 127) (bs 13 1087) rfl rfl rfl rfl (by kernel_rfl) (by decide) (by decide) (fun K hK => ?_) (fun K hK => ?_)
          ·skip
           refine zG Tryz.func43 #[.agg #[.int .i64 ((rd_T53 l0 x7_2).f0.f0), .int .i64 ((rd_T53 l0 x7_2).f0.f1)], .agg #[.int .i64 a1_0, .int .i64 a1_1]] ?_
           with_reducible refine (dioramaref02_Add.calls k2 ((rd_T53 l0 x7_2).f0.f0) ((rd_T53 l0 x7_2).f0.f1) a1_0 a1_1 t448 t449 t450 _ A15.out).mono ?_
           rintro e w53 ⟨rfl, hb⟩; refine ⟨_, rfl, ?_⟩; replace HO_6 := Aside0.mk (Kd.R_below (rz HO_6) hb); replace BK441 := kb BK441 hb; replace HB := bp hb; clear hb; refine hK.out _ _ ⟨ct BK441 0, ct BK441 1, (cl HB hw447_0), (cl HB hw447_1), (cl HB hw447_2), (cl HB hw447_3)⟩ (fun hHeld => ?_); clear hK K; refine zM 32 ?_; refine zP 7 25 13 255 ?_; refine zP 8 33 13 511 ?_; refine zP 9 34 13 1023 ?_; refine zN 10 (some 8) 13 2047 (fun K hK => ?_); refine box_step ?hg (N := 8) ?hd (cs := #[.int .i64 0, .int .i64 0]) (t := 24) ?hr ?_; (case hd => rfl); (case hg => rfl); (case hr => first | (go_simp; done) | (go_simp; rfl))
           intro gb451 hg w54 hbox hb; replace HO_6 := Aside0.mk (Kd.R_below (rz HO_6) hb); have BK451 := Aside0.mk hbox; have GW451 := gz hg; have GE451 := gz hg; replace HB := bp hb; have NB441_451 := Aside0.mk ((by rw [hg]; exact Nat.ne_of_lt (bl BK441) : gb441 ≠ gb451)); have NB451_441 := Aside0.mk ((by rw [hg]; exact Nat.ne_of_gt (bl BK441) : gb451 ≠ gb441)); replace BK441 := kb BK441 hb; clear hb hbox hg; refine hK.out _ _ ⟨ct BK441 0, ct BK441 1, (cl HB hw447_0), (cl HB hw447_1), (cl HB hw447_2), (cl HB hw447_3)⟩ (fun hHeld => ?_); clear hK K; refine zM 8 ?_
           exact norm_ (by simp only [putAll, Act.put, List.setIfInBounds_toArray, List.set_cons_zero, List.set_cons_succ]) (hCont (gb451) _ ⟨hHeld, (rz HO_6), kz, kz, GW451.out, GE451.out, NB441_451.out, NB451_441.out, bz⟩)
          ·skip
           refine box_step ?hg (N := 8) ?hd (cs := #[.int .i64 0, .int .i64 0]) (t := 24) ?hr ?_; (case hd => rfl); (case hg => rfl); (case hr => first | (go_simp; done) | (go_simp; rfl))
           intro gb451 hg w53 hbox hb; replace HO_6 := Aside0.mk (Kd.R_below (rz HO_6) hb); have BK451 := Aside0.mk hbox; have GW451 := gz hg; have GE451 := gz hg; replace HB := bp hb; have NB441_451 := Aside0.mk ((by rw [hg]; exact Nat.ne_of_lt (bl BK441) : gb441 ≠ gb451)); have NB451_441 := Aside0.mk ((by rw [hg]; exact Nat.ne_of_gt (bl BK441) : gb451 ≠ gb441)); replace BK441 := kb BK441 hb; clear hb hbox hg; refine hK.out _ _ ⟨ct BK441 0, ct BK441 1, (cl HB hw447_0), (cl HB hw447_1), (cl HB hw447_2), (cl HB hw447_3)⟩ (fun hHeld => ?_); clear hK K; refine zM 8 ?_; refine zN 6 (some 32) 13 1151 (fun K hK => ?_); refine zG Tryz.func43 #[.agg #[.int .i64 ((rd_T53 l0 x7_2).f0.f0), .int .i64 ((rd_T53 l0 x7_2).f0.f1)], .agg #[.int .i64 a1_0, .int .i64 a1_1]] ?_
           with_reducible refine (dioramaref02_Add.calls k2 ((rd_T53 l0 x7_2).f0.f0) ((rd_T53 l0 x7_2).f0.f1) a1_0 a1_1 t448 t449 t450 _ A15.out).mono ?_
           rintro e w54 ⟨rfl, hb⟩; refine ⟨_, rfl, ?_⟩; replace HO_6 := Aside0.mk (Kd.R_below (rz HO_6) hb); replace BK441 := kb BK441 hb; replace BK451 := kb BK451 hb; replace HB := bp hb; clear hb; refine hK.out _ _ ⟨ct BK441 0, ct BK441 1, (cl HB hw447_0), (cl HB hw447_1), (cl HB hw447_2), (cl HB hw447_3)⟩ (fun hHeld => ?_); clear hK K; refine zM 32 ?_; refine zP 7 25 13 1279 ?_; refine zP 8 33 13 1535 ?_; refine zP 9 34 13 2047 ?_
           exact norm_ (by simp only [putAll, Act.put, List.setIfInBounds_toArray, List.set_cons_zero, List.set_cons_succ]) (hCont (gb451) _ ⟨hHeld, (rz HO_6), kz, kz, GW451.out, GE451.out, NB441_451.out, NB451_441.out, bz⟩)
         rintro gb451 w55 ⟨hS_, h0_, h1_, h2_, h3_, h4_, h5_, h6_, h7_⟩; have n0_ : Aside0 (Kd.R k53 53 w55 w.heap.size (fun _ => True) u6 x6_2) := ⟨h0_⟩; have n1_ : Aside0 (w55.heap[gb441]? = some (.cells #[.int .i64 a1_0, .int .i64 a1_1] 24 (0, 0))) := ⟨h1_⟩; have n2_ : Aside0 (w55.heap[gb451]? = some (.cells #[.int .i64 0, .int .i64 0] 24 (0, 0))) := ⟨h2_⟩; have n3_ : Aside0 (w.heap.size ≤ gb451) := ⟨h3_⟩; have n4_ : Aside0 (w.heap.size ≤ gb451) := ⟨h4_⟩; have n5_ : Aside0 (gb441 ≠ gb451) := ⟨h5_⟩; have n6_ : Aside0 (gb451 ≠ gb441) := ⟨h6_⟩; have n7_ : Aside0 (Below w.heap.size w w55) := ⟨h7_⟩; clear HO_6; clear BK441; clear HB; clear h0_ h1_ h2_ h3_ h4_ h5_ h6_ h7_; have HO_6 := n0_; have BK441 := n1_; have BK451 := n2_; have GW451 := n3_; have GE451 := n4_; have NB441_451 := n5_; have NB451_441 := n6_; have HB := n7_; clear n0_ n1_ n2_ n3_ n4_ n5_ n6_ n7_; have hHeld : w55.cell? ⟨gb441, 0, none⟩ = some (.int .i64 a1_0) ∧ w55.cell? ⟨gb441, 1, none⟩ = some (.int .i64 a1_1) ∧ w55.cell? (ad447.add ((x7_2).toNat * 4)) = some (.int .i64 ((rd_T53 l0 x7_2).f0.f0)) ∧ w55.cell? ⟨(ad447.add ((x7_2).toNat * 4)).block, (ad447.add ((x7_2).toNat * 4)).off + 1, none⟩ = some (.int .i64 ((rd_T53 l0 x7_2).f0.f1)) ∧ w55.cell? ⟨(ad447.add ((x7_2).toNat * 4)).block, (ad447.add ((x7_2).toNat * 4)).off + 2, none⟩ = some (.int .i64 ((rd_T53 l0 x7_2).f1.f0)) ∧ w55.cell? ⟨(ad447.add ((x7_2).toNat * 4)).block, (ad447.add ((x7_2).toNat * 4)).off + 3, none⟩ = some (.int .i64 ((rd_T53 l0 x7_2).f1.f1)) := hS_; refine norm_ (a' := ?_) ?_ ?_
         rotate_left
         ·simp only [putAll, Act.put, List.setIfInBounds_toArray, List.set_cons_zero, List.set_cons_succ]
          rfl
         refine zN 11 none 13 4095 (fun K hK => ?_); have hs56 : w55.cell? ⟨gb451, 0, none⟩ = some (.int .i64 0) := ct BK451 0; have hfs56 := blk_frozen BK451.out 0; have hns56_0 := NB441_451.out; have hms56_0 := NB451_441.out; have hs57 : w55.cell? ⟨gb451, 1, none⟩ = some (.int .i64 0) := ct BK451 1; have hfs57 := blk_frozen BK451.out 1; have hns57_0 := NB441_451.out; have hms57_0 := NB451_441.out; refine skip_ (w1 := ?_) (by rfl) rfl ?_ ?_
         rotate_left
         ·go_simp
          rfl
         refine hK.out _ _ ⟨((cell_far (p := ⟨gb451, _, none⟩) NB441_451.out _).trans (((cell_far (p := ⟨gb451, _, none⟩) NB441_451.out _).trans (hHeld.1)))), ((cell_far (p := ⟨gb451, _, none⟩) NB441_451.out _).trans (((cell_far (p := ⟨gb451, _, none⟩) NB441_451.out _).trans (hHeld.2.1)))), ((cell_far (p := ⟨gb451, _, none⟩) (by first | exact Nat.ne_of_lt (Nat.lt_of_lt_of_le (by have := World.block_lt_of_cell? _ _ hw447_0; first | rwa [add_block] at this | exact this) GW451.out) | (rw [add_block]; exact Nat.ne_of_lt (Nat.lt_of_lt_of_le (by have := World.block_lt_of_cell? _ _ hw447_0; first | rwa [add_block] at this | exact this) GW451.out)) | (show (Addr.add _ _).block ≠ _; rw [add_block]; exact Nat.ne_of_lt (Nat.lt_of_lt_of_le (by have := World.block_lt_of_cell? _ _ hw447_0; first | rwa [add_block] at this | exact this) GW451.out)) | (dsimp only; exact Nat.ne_of_lt (Nat.lt_of_lt_of_le (by have := World.block_lt_of_cell? _ _ hw447_0; first | rwa [add_block] at this | exact this) GW451.out))) _).trans (((cell_far (p := ⟨gb451, _, none⟩) (by first | exact Nat.ne_of_lt (Nat.lt_of_lt_of_le (by have := World.block_lt_of_cell? _ _ hw447_0; first | rwa [add_block] at this | exact this) GW451.out) | (rw [add_block]; exact Nat.ne_of_lt (Nat.lt_of_lt_of_le (by have := World.block_lt_of_cell? _ _ hw447_0; first | rwa [add_block] at this | exact this) GW451.out)) | (show (Addr.add _ _).block ≠ _; rw [add_block]; exact Nat.ne_of_lt (Nat.lt_of_lt_of_le (by have := World.block_lt_of_cell? _ _ hw447_0; first | rwa [add_block] at this | exact this) GW451.out)) | (dsimp only; exact Nat.ne_of_lt (Nat.lt_of_lt_of_le (by have := World.block_lt_of_cell? _ _ hw447_0; first | rwa [add_block] at this | exact this) GW451.out))) _).trans (hHeld.2.2.1)))), ((cell_far (p := ⟨gb451, _, none⟩) (by first | exact Nat.ne_of_lt (Nat.lt_of_lt_of_le (by have := World.block_lt_of_cell? _ _ hw447_1; first | rwa [add_block] at this | exact this) GW451.out) | (rw [add_block]; exact Nat.ne_of_lt (Nat.lt_of_lt_of_le (by have := World.block_lt_of_cell? _ _ hw447_1; first | rwa [add_block] at this | exact this) GW451.out)) | (show (Addr.add _ _).block ≠ _; rw [add_block]; exact Nat.ne_of_lt (Nat.lt_of_lt_of_le (by have := World.block_lt_of_cell? _ _ hw447_1; first | rwa [add_block] at this | exact this) GW451.out)) | (dsimp only; exact Nat.ne_of_lt (Nat.lt_of_lt_of_le (by have := World.block_lt_of_cell? _ _ hw447_1; first | rwa [add_block] at this | exact this) GW451.out))) _).trans (((cell_far (p := ⟨gb451, _, none⟩) (by first | exact Nat.ne_of_lt (Nat.lt_of_lt_of_le (by have := World.block_lt_of_cell? _ _ hw447_1; first | rwa [add_block] at this | exact this) GW451.out) | (rw [add_block]; exact Nat.ne_of_lt (Nat.lt_of_lt_of_le (by have := World.block_lt_of_cell? _ _ hw447_1; first | rwa [add_block] at this | exact this) GW451.out)) | (show (Addr.add _ _).block ≠ _; rw [add_block]; exact Nat.ne_of_lt (Nat.lt_of_lt_of_le (by have := World.block_lt_of_cell? _ _ hw447_1; first | rwa [add_block] at this | exact this) GW451.out)) | (dsimp only; exact Nat.ne_of_lt (Nat.lt_of_lt_of_le (by have := World.block_lt_of_cell? _ _ hw447_1; first | rwa [add_block] at this | exact this) GW451.out))) _).trans (hHeld.2.2.2.1)))), ((cell_far (p := ⟨gb451, _, none⟩) (by first | exact Nat.ne_of_lt (Nat.lt_of_lt_of_le (by have := World.block_lt_of_cell? _ _ hw447_2; first | rwa [add_block] at this | exact this) GW451.out) | (rw [add_block]; exact Nat.ne_of_lt (Nat.lt_of_lt_of_le (by have := World.block_lt_of_cell? _ _ hw447_2; first | rwa [add_block] at this | exact this) GW451.out)) | (show (Addr.add _ _).block ≠ _; rw [add_block]; exact Nat.ne_of_lt (Nat.lt_of_lt_of_le (by have := World.block_lt_of_cell? _ _ hw447_2; first | rwa [add_block] at this | exact this) GW451.out)) | (dsimp only; exact Nat.ne_of_lt (Nat.lt_of_lt_of_le (by have := World.block_lt_of_cell? _ _ hw447_2; first | rwa [add_block] at this | exact this) GW451.out))) _).trans (((cell_far (p := ⟨gb451, _, none⟩) (by first | exact Nat.ne_of_lt (Nat.lt_of_lt_of_le (by have := World.block_lt_of_cell? _ _ hw447_2; first | rwa [add_block] at this | exact this) GW451.out) | (rw [add_block]; exact Nat.ne_of_lt (Nat.lt_of_lt_of_le (by have := World.block_lt_of_cell? _ _ hw447_2; first | rwa [add_block] at this | exact this) GW451.out)) | (show (Addr.add _ _).block ≠ _; rw [add_block]; exact Nat.ne_of_lt (Nat.lt_of_lt_of_le (by have := World.block_lt_of_cell? _ _ hw447_2; first | rwa [add_block] at this | exact this) GW451.out)) | (dsimp only; exact Nat.ne_of_lt (Nat.lt_of_lt_of_le (by have := World.block_lt_of_cell? _ _ hw447_2; first | rwa [add_block] at this | exact this) GW451.out))) _).trans (hHeld.2.2.2.2.1)))), ((cell_far (p := ⟨gb451, _, none⟩) (by first | exact Nat.ne_of_lt (Nat.lt_of_lt_of_le (by have := World.block_lt_of_cell? _ _ hw447_3; first | rwa [add_block] at this | exact this) GW451.out) | (rw [add_block]; exact Nat.ne_of_lt (Nat.lt_of_lt_of_le (by have := World.block_lt_of_cell? _ _ hw447_3; first | rwa [add_block] at this | exact this) GW451.out)) | (show (Addr.add _ _).block ≠ _; rw [add_block]; exact Nat.ne_of_lt (Nat.lt_of_lt_of_le (by have := World.block_lt_of_cell? _ _ hw447_3; first | rwa [add_block] at this | exact this) GW451.out)) | (dsimp only; exact Nat.ne_of_lt (Nat.lt_of_lt_of_le (by have := World.block_lt_of_cell? _ _ hw447_3; first | rwa [add_block] at this | exact this) GW451.out))) _).trans (((cell_far (p := ⟨gb451, _, none⟩) (by first | exact Nat.ne_of_lt (Nat.lt_of_lt_of_le (by have := World.block_lt_of_cell? _ _ hw447_3; first | rwa [add_block] at this | exact this) GW451.out) | (rw [add_block]; exact Nat.ne_of_lt (Nat.lt_of_lt_of_le (by have := World.block_lt_of_cell? _ _ hw447_3; first | rwa [add_block] at this | exact this) GW451.out)) | (show (Addr.add _ _).block ≠ _; rw [add_block]; exact Nat.ne_of_lt (Nat.lt_of_lt_of_le (by have := World.block_lt_of_cell? _ _ hw447_3; first | rwa [add_block] at this | exact this) GW451.out)) | (dsimp only; exact Nat.ne_of_lt (Nat.lt_of_lt_of_le (by have := World.block_lt_of_cell? _ _ hw447_3; first | rwa [add_block] at this | exact this) GW451.out))) _).trans (hHeld.2.2.2.2.2))))⟩ (fun hHeld => ?_)
         clear hK K; refine zP 12 9 13 8191 ?_; refine done_ (by kernel_rfl) ?_
         try go_wp2
         go_ret2
         exact ⟨_, ez, by first | exact Kd.R_nil _ _ _ _ _ | exact Kd.N_nil _ _ _ _ _ | exact Kd.V_nil _ _ _ _ _ | exact Kd.Q_nil _ _ _ _ _ | exact Kd.S_nil _ _ _ _ _, bz⟩
       ·rw [if_neg c14] at H
        exact absurd H (by simp)
      ·rw [if_neg c13] at H; have c13b0 : decide (x7_2 < (l0.length : Int)) = false := decide_eq_false c13; clear c13; obtain ⟨t444, A58, H⟩ := ob H; simp only [Option.some.injEq, Prod.mk.injEq] at H; obtain ⟨rfl, rfl⟩ := H; obtain ⟨Ao59, co59, eo59⟩ := Kd.R_slice HO_6.out; subst eo59
       go_wp2_with (first | ((with_reducible refine gate_callee (f := 44) rfl ?_); refine zC 58 Tryz.func44 #[.slice Ao59 x6_2.length co59, .slice none 0 0, .int .i64 0] ?_; (refine (dioramaref02_joined.calls k2 _ _ x6_2 _ _ ([] : List (S53)) 0 t444 _ ?side1 ?side2 ?side3 ?side4 A58.out).mono ?_); (case side1 => exact cr HO_6); (case side2 => exact (Kd.R_reads' HO_6.out).2.1); (case side3 => exact Kd.C_nil _ _); (case side4 => exact Nat.le_refl _); rintro e w60 ⟨v445, rfl, ho0, hb⟩; refine ⟨_, rfl, ?_⟩; have HO446 := Aside0.mk (Kd.R_lower (Kd.R_new' ho0 (Kd.R_lt (rz HO_6))) sz); replace HO_6 := Aside0.mk (Kd.R_elder' (rz HO_6) (Kd.R_base ho0) hb); replace BK441 := kb BK441 hb; replace HB := bp hb; clear hb ho0))
       go_ret2
       exact ⟨_, ez, by (with_reducible repeat (first | apply Kd.R_alloc | apply Kd.R_drewN | apply Kd.R_drew)); exact Kd.R_mono HO446.out (fun _ hk => trivial), bz⟩
end Go.Proofs.YtekommcfpjonmaaGreat.E
namespace Go.Proofs.YtekommcfpjonmaaGreat.E
open Go.Proofs.YtekommcfpjonmaaGreat.Z Go.RowKit Go.Proofs.YtekommcfpjonmaaGreatW.PrintWords Go.Proofs.YtekommcfpjonmaaGreatW.PrintLast Go.Proofs.YtekommcfpjonmaaGreatW.PrintMore
attribute [local go_sem] max2_int min2_int max_two min_two max_three min_three max_four min_four
set_option linter.unusedVariables false
set_option linter.unusedSimpArgs false
attribute [local go_sem high] eqA53
def dioramaref02_EqSpans.l0 : Nat → List (S53) → List (S53) → Int → Option (Bool)
  | 0, _, _, _ => none
  | k + 1, x0, x1, x5 => if x5 < (x0.length : Int) then (if 0 ≤ x5 then (if x5 < (x1.length : Int) then (if ((!(((rd_T53 x0 x5).f0.f0) == ((rd_T53 x1 x5).f0.f0)) || (!(((rd_T53 x0 x5).f0.f1) == ((rd_T53 x1 x5).f0.f1)))) || ((!(((rd_T53 x0 x5).f1.f0) == ((rd_T53 x1 x5).f1.f0)) || (!(((rd_T53 x0 x5).f1.f1) == ((rd_T53 x1 x5).f1.f1)))))) = true then (some false) else (dioramaref02_EqSpans.l0 k x0 x1 (wrap64 (x5 + 1)))) else (none)) else (none)) else (some true)
def dioramaref02_EqSpans.f (k : Nat) (l0 : List (S53)) (l1 : List (S53)) : Option (Bool) := if (l0.length : Int) = (l1.length : Int) then (dioramaref02_EqSpans.l0 k l0 l1 0) else (some false)
set_option maxHeartbeats 8000000 in
set_option maxRecDepth 100000 in
theorem dioramaref02_EqSpans.calls (k : Nat) (A0 : Option Addr) (c0 : Nat) (l0 : List (S53)) (A1 : Option Addr) (c1 : Nat) (l1 : List (S53)) (r : Bool) (w : World) (hr0 : Kd.C k53 w A0 l0.length l0) (hc0 : l0.length ≤ c0) (hr1 : Kd.C k53 w A1 l1.length l1) (hc1 : l1.length ≤ c1) (h : dioramaref02_EqSpans.f k l0 l1 = some r) :
  Calls Tryz.prog 13 #[.slice A0 l0.length c0, .slice A1 l1.length c1] w fun e w' => e = .returned (.bool r) ∧ Drawn0 w w' := by
 have hu53 := Tryz.underlying53; have HR0 := Aside0.mk hr0; have HC0 := Aside0.mk hc0; clear hr0 hc0; have HR1 := Aside0.mk hr1; have HC1 := Aside0.mk hc1; clear hr1 hc1; have H : (if (l0.length : Int) = (l1.length : Int) then (dioramaref02_EqSpans.l0 k l0 l1 0) else (some false)) = some r := h; clear h
 by_cases c3 : (l0.length : Int) = (l1.length : Int)
 ·rw [if_pos c3] at H; have c3b0 : ((l0.length : Int) == (l1.length : Int)) = true := beq_iff_eq.mpr c3; have c3b1 : ((l0.length : Int) != (l1.length : Int)) = false := bne_eq_false_iff_eq.mpr c3; have c3b2 : (l0.length == l1.length) = true := by first | simpa using c3 | (simp at c3 ⊢; omega)
  clear c3; have H' := Aside0.mk H; clear H
  go_enter Tryz.func13, Tryz.ntmps13
  go_wp2
  repeat (go_quiet (fail); try go_wp2)
  go_loopg [5] k (fun kq v5 w' => ∃ (x5_1 : Int), v5 = .int .i64 x5_1 ∧ Aside0 (dioramaref02_EqSpans.l0 kq l0 l1 x5_1 = some r) ∧ Aside0 (kq ≤ k) ∧ Drawn0 w w')
  case atStart => exact ⟨(0), jz, H', ⟨Nat.le_refl _⟩, by repeat (first | exact Drawn0.refl _ | apply Drawn0.step)⟩
  case round =>
   clear H'
   try clear c1
   try clear p2
   try clear c3
   try clear c3b0
   try clear c3b1
   try clear c3b2
   obtain ⟨x5_1, rfl, HA, HK1, ⟨m1, rfl⟩⟩ := hrel
   cases gk with
   | zero => exact absurd HA.out (by simp [dioramaref02_EqSpans.l0])
   | succ k1 =>
    have H := HA.out; clear HA; simp only [dioramaref02_EqSpans.l0] at H
    by_cases c4 : x5_1 < (l0.length : Int)
    ·rw [if_pos c4] at H; have c4b0 : decide (x5_1 < (l0.length : Int)) = true := decide_eq_true c4; clear c4
     by_cases c5 : 0 ≤ x5_1
     ·rw [if_pos c5] at H; have c5b0 : decide (0 ≤ x5_1) = true := decide_eq_true c5; clear c5
      by_cases c6 : x5_1 < (l1.length : Int)
      ·rw [if_pos c6] at H; have c6b0 : decide (x5_1 < (l1.length : Int)) = true := decide_eq_true c6; clear c6
       by_cases c7 : ((!(((rd_T53 l0 x5_1).f0.f0) == ((rd_T53 l1 x5_1).f0.f0)) || (!(((rd_T53 l0 x5_1).f0.f1) == ((rd_T53 l1 x5_1).f0.f1)))) || ((!(((rd_T53 l0 x5_1).f1.f0) == ((rd_T53 l1 x5_1).f1.f0)) || (!(((rd_T53 l0 x5_1).f1.f1) == ((rd_T53 l1 x5_1).f1.f1)))))) = true
       ·rw [if_pos c7] at H; have c7b0 : ((!(((rd_T53 l0 x5_1).f0.f0) == ((rd_T53 l1 x5_1).f0.f0)) || (!(((rd_T53 l0 x5_1).f0.f1) == ((rd_T53 l1 x5_1).f0.f1)))) || ((!(((rd_T53 l0 x5_1).f1.f0) == ((rd_T53 l1 x5_1).f1.f0)) || (!(((rd_T53 l0 x5_1).f1.f1) == ((rd_T53 l1 x5_1).f1.f1)))))) = true := c7; clear c7; obtain rfl := Option.some.inj H; have p460 : 0 ≤ (x5_1 : Int) := od; have q460 : x5_1 < (l0.length : Int) := od; obtain ⟨ad460, e460, hx460_0, hx460_1, hx460_2, hx460_3⟩ := at_T53 HR0.out x5_1 p460 q460
        cases e460
        replace p460 := eq_true p460; replace q460 := eq_true q460; have p461 : 0 ≤ (x5_1 : Int) := od; have q461 : x5_1 < (l1.length : Int) := od; obtain ⟨ad461, e461, hx461_0, hx461_1, hx461_2, hx461_3⟩ := at_T53 HR1.out x5_1 p461 q461
        cases e461
        replace p461 := eq_true p461; replace q461 := eq_true q461
        go_wp2
        repeat (go_quiet (fail); try go_wp2)
        go_ret
        exact ⟨by first | rfl | (simp; done) | (simp [*]; done), by repeat (first | exact Drawn0.refl _ | apply Drawn0.step)⟩
       ·rw [if_neg c7] at H; have c7b0 : ((!(((rd_T53 l0 x5_1).f0.f0) == ((rd_T53 l1 x5_1).f0.f0)) || (!(((rd_T53 l0 x5_1).f0.f1) == ((rd_T53 l1 x5_1).f0.f1)))) || ((!(((rd_T53 l0 x5_1).f1.f0) == ((rd_T53 l1 x5_1).f1.f0)) || (!(((rd_T53 l0 x5_1).f1.f1) == ((rd_T53 l1 x5_1).f1.f1)))))) = false := by simpa using c7
        clear c7; have H' := Aside0.mk H; clear H; have p460 : 0 ≤ (x5_1 : Int) := od; have q460 : x5_1 < (l0.length : Int) := od; obtain ⟨ad460, e460, hx460_0, hx460_1, hx460_2, hx460_3⟩ := at_T53 HR0.out x5_1 p460 q460
        cases e460
        replace p460 := eq_true p460; replace q460 := eq_true q460; have p461 : 0 ≤ (x5_1 : Int) := od; have q461 : x5_1 < (l1.length : Int) := od; obtain ⟨ad461, e461, hx461_0, hx461_1, hx461_2, hx461_3⟩ := at_T53 HR1.out x5_1 p461 q461
        cases e461
        replace p461 := eq_true p461; replace q461 := eq_true q461
        go_wp2
        repeat (go_quiet (fail); try go_wp2)
        go_roundg k1
        case measure => have := HK1.out; omega
        case rel => exact ⟨(wrap64 (x5_1 + 1)), jz, H', ⟨by have := HK1.out; omega⟩, by repeat (first | exact Drawn0.refl _ | apply Drawn0.step)⟩
      ·rw [if_neg c6] at H
       exact absurd H (by simp)
     ·rw [if_neg c5] at H
      exact absurd H (by simp)
    ·rw [if_neg c4] at H; have c4b0 : decide (x5_1 < (l0.length : Int)) = false := decide_eq_false c4; clear c4; obtain rfl := Option.some.inj H
     go_wp2
     repeat (go_quiet (fail); try go_wp2)
     go_ret
     exact ⟨by first | rfl | (simp; done) | (simp [*]; done), by repeat (first | exact Drawn0.refl _ | apply Drawn0.step)⟩
 ·rw [if_neg c3] at H; have c3b0 : ((l0.length : Int) == (l1.length : Int)) = false := beq_eq_false_iff_ne.mpr c3; have c3b1 : ((l0.length : Int) != (l1.length : Int)) = true := bne_iff_ne.mpr c3; have c3b2 : (l0.length == l1.length) = false := by first | simpa using c3 | (simp at c3 ⊢; omega)
  obtain rfl := Option.some.inj H
  go_enter Tryz.func13, Tryz.ntmps13
  go_wp2
  repeat (go_quiet (fail); try go_wp2)
  go_ret
  exact ⟨by first | rfl | (simp; done) | (simp [*]; done), by repeat (first | exact Drawn0.refl _ | apply Drawn0.step)⟩
end Go.Proofs.YtekommcfpjonmaaGreat.E
namespace Go.Proofs.YtekommcfpjonmaaGreat.E
open Go.Proofs.YtekommcfpjonmaaGreat.Z Go.RowKit Go.Proofs.YtekommcfpjonmaaGreatW.PrintWords Go.Proofs.YtekommcfpjonmaaGreatW.PrintLast Go.Proofs.YtekommcfpjonmaaGreatW.PrintMore
attribute [local go_sem] max2_int min2_int max_two min_two max_three min_three max_four min_four
set_option linter.unusedVariables false
set_option linter.unusedSimpArgs false
end Go.Proofs.YtekommcfpjonmaaGreat.E
namespace Go.Proofs.YtekommcfpjonmaaGreat.E
open Go.Proofs.YtekommcfpjonmaaGreat.Z Go.RowKit Go.Proofs.YtekommcfpjonmaaGreatW.PrintWords Go.Proofs.YtekommcfpjonmaaGreatW.PrintLast Go.Proofs.YtekommcfpjonmaaGreatW.PrintMore
attribute [local go_sem] max2_int min2_int max_two min_two max_three min_three max_four min_four
set_option linter.unusedVariables false
set_option linter.unusedSimpArgs false
attribute [local go_sem high] eqA24
end Go.Proofs.YtekommcfpjonmaaGreat.E
namespace Go.Proofs.YtekommcfpjonmaaGreat.E
open Go.Proofs.YtekommcfpjonmaaGreat.Z Go.RowKit Go.Proofs.YtekommcfpjonmaaGreatW.PrintWords Go.Proofs.YtekommcfpjonmaaGreatW.PrintLast Go.Proofs.YtekommcfpjonmaaGreatW.PrintMore
attribute [local go_sem] max2_int min2_int max_two min_two max_three min_three max_four min_four
set_option linter.unusedVariables false
set_option linter.unusedSimpArgs false
mutual
def exact_gcd.j0 : Nat → Int → Int → Option (Int)
  | 0, _, _ => none
  | k + 1, x0, x1 => exact_gcd.l0 k x0 x1
def exact_gcd.l0 : Nat → Int → Int → Option (Int)
  | 0, _, _ => none
  | k + 1, x0, x1 => if x1 = 0 then (some x0) else (exact_gcd.l0 k x1 (Int.tmod x0 x1))
end
def exact_gcd.f (k : Nat) (a0 : Int) (a1 : Int) : Option (Int) := if a0 < 0 then (exact_gcd.j0 k (wrap64 (-a0)) a1) else (exact_gcd.j0 k a0 a1)
set_option maxHeartbeats 8000000 in
set_option maxRecDepth 100000 in
theorem exact_gcd.calls (k : Nat) (a0 : Int) (a1 : Int) (r : Int) (w : World) (h : exact_gcd.f k a0 a1 = some r) :
  Calls Tryz.prog 134 #[.int .i64 a0, .int .i64 a1] w fun e w' => e = .returned (.int .i64 r) ∧ Drawn0 w w' := by
 have H : (if a0 < 0 then (exact_gcd.j0 k (wrap64 (-a0)) a1) else (exact_gcd.j0 k a0 a1)) = some r := h; clear h; have HC3 := Aside0.mk H; clear H
 go_enter Tryz.func134, Tryz.ntmps134
 go_upto_if 6 with (fail)
 repeat (go_quiet (fail); go_upto_if 6 with (fail))
 go_cut [0] (fun v0 wc => ∃ (kq : Nat) (x0_2 : Int), v0 = .int .i64 x0_2 ∧ Aside0 (exact_gcd.j0 kq x0_2 a1 = some r) ∧ Aside0 (kq ≤ k) ∧ Drawn0 w wc)
 case first =>
  have H := HC3.out; clear HC3
  by_cases c4 : a0 < 0
  ·rw [if_pos c4] at H; have c4b0 : decide (a0 < 0) = true := decide_eq_true c4; clear c4
   (first | rw [c4b0] | (simp only [i64_w, i32_w]; rw [c4b0]) | skip)
   have H' := Aside0.mk H; clear H
   go_wp2
   repeat (go_quiet (fail); try go_wp2)
   go_meet
   case rel => exact ⟨_, (wrap64 (-a0)), jz, H', ⟨by first | omega | exact Nat.le_refl _⟩, by repeat (first | exact Drawn0.refl _ | apply Drawn0.step)⟩
  ·rw [if_neg c4] at H; have c4b0 : decide (a0 < 0) = false := decide_eq_false c4; clear c4
   (first | rw [c4b0] | (simp only [i64_w, i32_w]; rw [c4b0]) | skip)
   have H' := Aside0.mk H; clear H
   go_wp2
   repeat (go_quiet (fail); try go_wp2)
   go_meet
   case rel => exact ⟨_, (a0), jz, H', ⟨by first | omega | exact Nat.le_refl _⟩, by repeat (first | exact Drawn0.refl _ | apply Drawn0.step)⟩
 case rest =>
  clear HC3
  try clear c1
  try clear p2
  try clear c4
  try clear c4b0
  obtain ⟨kq, x0_2, rfl, HA, HJ2, ⟨mc2, rfl⟩⟩ := hcut
  cases kq with
  | zero => exact absurd HA.out (by simp [exact_gcd.j0])
  | succ kj2 =>
   have H := HA.out; clear HA; simp only [exact_gcd.j0] at H; have H' := Aside0.mk H; clear H
   go_wp2
   repeat (go_quiet (fail); try go_wp2)
   go_loopg [0, 1] kj2 (fun kq v0 v1 w' => ∃ (x0_2 : Int) (x1_2 : Int), v0 = .int .i64 x0_2 ∧ v1 = .int .i64 x1_2 ∧ Aside0 (exact_gcd.l0 kq x0_2 x1_2 = some r) ∧ Aside0 (kq ≤ kj2) ∧ Drawn0 w w')
   case atStart => exact ⟨(x0_2), (a1), jz, jz, H', ⟨Nat.le_refl _⟩, by repeat (first | exact Drawn0.refl _ | apply Drawn0.step)⟩
   case round =>
    clear H'
    try clear c1
    try clear c2
    try clear p2
    try clear c4
    try clear c4b0
    try clear p2
    obtain ⟨x0_2, x1_2, rfl, rfl, HA, HK2, ⟨m2, rfl⟩⟩ := hrel
    cases gk with
    | zero => exact absurd HA.out (by simp [exact_gcd.l0])
    | succ k2 =>
     have H := HA.out; clear HA; simp only [exact_gcd.l0] at H
     by_cases c5 : x1_2 = 0
     ·rw [if_pos c5] at H; have c5b0 : (x1_2 == 0) = true := beq_iff_eq.mpr c5; have c5b1 : (x1_2 != 0) = false := bne_eq_false_iff_eq.mpr c5; clear c5; obtain rfl := Option.some.inj H
      go_wp2
      repeat (go_quiet (fail); try go_wp2)
      go_ret
      exact ⟨by first | rfl | (simp; done) | (simp [*]; done), by repeat (first | exact Drawn0.refl _ | apply Drawn0.step)⟩
     ·rw [if_neg c5] at H; have c5b0 : (x1_2 == 0) = false := beq_eq_false_iff_ne.mpr c5; have c5b1 : (x1_2 != 0) = true := bne_iff_ne.mpr c5; have H' := Aside0.mk H; clear H
      go_wp2
      repeat (go_quiet (fail); try go_wp2)
      go_roundg k2
      case measure => have := HJ2.out; have := HK2.out; omega
      case rel => exact ⟨(x1_2), (Int.tmod x0_2 x1_2), jz, jz, H', ⟨by have := HJ2.out; have := HK2.out; omega⟩, by repeat (first | exact Drawn0.refl _ | apply Drawn0.step)⟩
def exact_lowest.f (k : Nat) (a0 : Int) (a1 : Int) : Option (Int × Int) := (exact_gcd.f k a0 a1).bind fun t687 => (if t687 = 0 then (none) else (some (wrap64 (Int.tdiv a0 t687), wrap64 (Int.tdiv a1 t687))))
set_option maxHeartbeats 8000000 in
set_option maxRecDepth 100000 in
theorem exact_lowest.calls (k : Nat) (a0 : Int) (a1 : Int) (r1 : Int) (r2 : Int) (w : World) (h : exact_lowest.f k a0 a1 = some (r1, r2)) :
  Calls Tryz.prog 88 #[.int .i64 a0, .int .i64 a1] w fun e w' => e = .returned (.agg #[.int .i64 r1, .int .i64 r2]) ∧ Below w.heap.size w w' := by
 have hu24 := Tryz.underlying24; have HB := Aside0.mk (Below.refl w.heap.size w); have H : ((exact_gcd.f k a0 a1).bind fun t687 => (if t687 = 0 then (none) else (some (wrap64 (Int.tdiv a0 t687), wrap64 (Int.tdiv a1 t687))))) = some (r1, r2) := h
 clear h; obtain ⟨t687, A3, H⟩ := ob H
 by_cases c4 : t687 = 0
 ·rw [if_pos c4] at H
  exact absurd H (by simp)
 ·rw [if_neg c4] at H; have c4b0 : (t687 == 0) = false := beq_eq_false_iff_ne.mpr c4; have c4b1 : (t687 != 0) = true := bne_iff_ne.mpr c4; simp only [Option.some.injEq, Prod.mk.injEq] at H; obtain ⟨rfl, rfl⟩ := H
  go_enter Tryz.func88, Tryz.ntmps88
  try go_wp2_with (first | ((with_reducible refine gate_dst (N := 4) rfl ?_); refine zB 4 24 #[.int .i64 0, .int .i64 0] ?_; intro gb686 hg w5 hbox hb; have BK686 := Aside0.mk hbox; have GW686 := gz hg; have GE686 := gz hg; replace HB := bp hb; clear hb hbox hg) | ((with_reducible refine gate_callee (f := 134) rfl ?_); refine zC 8 Tryz.func134 #[.int .i64 a0, .int .i64 a1] ?_; (with_reducible refine (exact_gcd.calls k a0 a1 t687 _ A3.out).mono ?_); rintro e w' ⟨rfl, ⟨nd, rfl⟩⟩; refine ⟨_, rfl, ?_⟩; (try (rw [drewN_self w5]; generalize hq_ : World.drewN w5 _ = w5; have n0_ : Aside0 (w5.heap[gb686]? = some (.cells #[.int .i64 0, .int .i64 0] 24 (0, 0))) := ⟨by rw [← hq_]; exact kz⟩; have n1_ : Aside0 (Below w.heap.size w w5) := ⟨by rw [← hq_]; exact bz⟩; clear BK686 HB hq_; have BK686 := n0_; have HB := n1_; clear n0_ n1_))))
  replace BK686 := Aside0.mk (blk_drew BK686.out); replace HB := Aside0.mk (below_drew1 HB.out); refine start_ (n := 8) (S := fun w' => True) (ds := []) (bs 8 0) (by kernel_rfl) rfl rfl trivial (fun hHeld => ?_); generalize w5.drew = w6 at BK686 HB hHeld ⊢; refine zP 0 9 8 1 ?_; refine zP 1 10 8 3 ?_; refine zP 2 11 8 7 ?_; refine zP 3 12 8 15 ?_; refine zP 4 13 8 31 ?_; refine zP 5 14 8 63 ?_; refine zP 6 15 8 127 ?_; refine zN 7 none 8 255 (fun K hK => ?_); have hs7 : w6.cell? ⟨gb686, 0, none⟩ = some (.int .i64 0) := ct BK686 0; have hfs7 := blk_frozen BK686.out 0; have hs8 : w6.cell? ⟨gb686, 1, none⟩ = some (.int .i64 0) := ct BK686 1; have hfs8 := blk_frozen BK686.out 1; refine skip_ (w1 := ?_) (by rfl) rfl ?_ ?_
  rotate_left
  ·go_simp
   rfl
  refine hK.out _ _ trivial (fun hHeld => ?_); clear hK K; refine done_ (by kernel_rfl) ?_
  try go_wp2
  refine bodyPost_ret (results_cell_row rfl _ _ gb686 24 #[.int .i64 (wrap64 (Int.tdiv a0 t687)), .int .i64 (wrap64 (Int.tdiv a1 t687))] (0, 0) _ rfl (by (with_reducible repeat (first | refine blk_drewN ?_ _ | refine blk_drew ?_ | refine blk_alloc ?_ _)); refine blk_put (cs := #[.int .i64 (wrap64 (Int.tdiv a0 t687)), .int .i64 0]) ?_ 1 _ rfl; (with_reducible repeat (first | refine blk_drewN ?_ _ | refine blk_drew ?_ | refine blk_alloc ?_ _)); refine blk_put (cs := #[.int .i64 0, .int .i64 0]) ?_ 0 _ rfl; (with_reducible repeat (first | refine blk_drewN ?_ _ | refine blk_drew ?_ | refine blk_alloc ?_ _)); exact BK686.out) Tryz.underlying24 rfl (by kernel_rfl)) rfl ?_
  exact ⟨ez, bz⟩
end Go.Proofs.YtekommcfpjonmaaGreat.E
namespace Go.Proofs.YtekommcfpjonmaaGreat.Ea
open Go.RowKit Go Go.Proofs.YtekommcfpjonmaaGreatW.PrintWords Go.Proofs.YtekommcfpjonmaaGreatW.PrintLast Go.Proofs.YtekommcfpjonmaaGreatW.PrintMore Go.Proofs.YtekommcfpjonmaaGreat.Ml Go.Proofs.YtekommcfpjonmaaGreat.Mn Go.Proofs.YtekommcfpjonmaaGreat.Nd Go.Proofs.YtekommcfpjonmaaGreat.Z Go.Proofs.YtekommcfpjonmaaGreat.P Go.Proofs.YtekommcfpjonmaaGreat.Nc Go.Proofs.YtekommcfpjonmaaGreat.Nb Go.Proofs.YtekommcfpjonmaaGreat.Qa Go.Proofs.YtekommcfpjonmaaGreat.Qb Go.Proofs.YtekommcfpjonmaaGreat.E
set_option linter.unusedVariables false
set_option linter.unusedSimpArgs false
theorem gcd_l (y : Nat) : ∀ x k : Nat, y < k → exact_gcd.l0 k (x : Int) (y : Int) = some ((Nat.gcd x y : Nat) : Int) := by
 induction y using Nat.strongRecOn with
 | _ y ih =>
  intro x k hk
  obtain ⟨k, rfl⟩ : ∃ j, k = j + 1 := ⟨k - 1, by omega⟩
  unfold exact_gcd.l0
  by_cases hy : y = 0
  ·subst hy
   simp
  ·rw [if_neg (by omega)]
   have e : Int.tmod (x : Int) (y : Int) = ((x % y : Nat) : Int) := by rw [Int.tmod_eq_emod_of_nonneg (by omega)]; simp
   rw [e, ih (x % y) (Nat.mod_lt _ (by omega)) y k (by have := Nat.mod_lt x (show y > 0 by omega); omega)]
   congr 2
   rw [Nat.gcd_comm x y, Nat.gcd_rec y x, Nat.gcd_comm]
theorem gcd_f (a : Int) (b : Nat) (k : Nat) (h0 : -9223372036854775807 ≤ a) (h1 : a ≤ 9223372036854775807) (hk : b + 1 < k) : exact_gcd.f k a (b : Int) = some ((Int.gcd a b : Nat) : Int) := by
 obtain ⟨k, rfl⟩ : ∃ j, k = j + 1 := ⟨k - 1, by omega⟩
 have ej : ∀ x y, exact_gcd.j0 (k + 1) x y = exact_gcd.l0 k x y := fun _ _ => by unfold exact_gcd.j0; rfl
 unfold exact_gcd.f
 rw [ej, ej]
 by_cases ha : a < 0
 ·rw [if_pos ha, w64 (by omega) (by omega)]
  obtain ⟨n, hn⟩ : ∃ n : Nat, -a = (n : Int) := ⟨(-a).toNat, by omega⟩
  rw [hn, gcd_l b n k (by omega)]
  have : Int.gcd a b = Nat.gcd n b := by
   rw [show a = -(n : Int) by omega, Int.neg_gcd]; rfl
  rw [this]
 ·rw [if_neg ha]
  obtain ⟨n, rfl⟩ : ∃ n : Nat, a = (n : Int) := ⟨a.toNat, by omega⟩
  rw [gcd_l b n k (by omega)]
  rfl
def lowN (n d : Int) : Int := n / (Int.gcd n d : Int)
def lowD (n d : Int) : Int := d / (Int.gcd n d : Int)
theorem div_bound {n g : Int} (hg : 1 ≤ g) {m : Int} (h0 : -m ≤ n) (h1 : n ≤ m) (hd : g ∣ n) : -m ≤ n / g ∧ n / g ≤ m := by
 obtain ⟨q, rfl⟩ := hd
 rw [Int.mul_ediv_cancel_left _ (by omega)]
 have hm : 0 ≤ m := by omega
 rcases Int.lt_or_le q 0 with h | h
 ·have : g * (-q) ≥ 1 * (-q) := Int.mul_le_mul_of_nonneg_right hg (by omega)
  rw [Int.mul_neg] at this
  omega
 ·have : g * q ≥ 1 * q := Int.mul_le_mul_of_nonneg_right hg h
  omega
theorem lowest_f (n : Int) (d : Int) (h0 : -9223372036854775807 ≤ n) (h1 : n ≤ 9223372036854775807) (hd : 1 ≤ d) (hd1 : d ≤ 9223372036854775807) : ∃ k, exact_lowest.f k n d = some (lowN n d, lowD n d) := by
 obtain ⟨m, rfl⟩ : ∃ m : Nat, d = (m : Int) := ⟨d.toNat, by omega⟩
 refine ⟨m + 2, ?_⟩
 unfold exact_lowest.f lowN lowD
 rw [gcd_f n m (m + 2) h0 h1 (by omega), Option.bind_some]
 have hg : 1 ≤ ((Int.gcd n m : Nat) : Int) := by
  have := Int.gcd_pos_of_ne_zero_right n (show (m : Int) ≠ 0 by omega)
  omega
 have d1 : ((Int.gcd n m : Nat) : Int) ∣ n := Int.gcd_dvd_left n m
 have d2 : ((Int.gcd n m : Nat) : Int) ∣ (m : Int) := Int.gcd_dvd_right n m
 rw [if_neg (by omega), Int.tdiv_eq_ediv_of_dvd d1, Int.tdiv_eq_ediv_of_dvd d2]
 have b1 := div_bound hg h0 h1 d1
 have b2 := div_bound hg (m := 9223372036854775807) (by omega) hd1 d2
 rw [w64 (by omega) (by omega), w64 (by omega) (by omega)]
def isScale (s : Int) : Bool := decide (1 ≤ s) && decide (s ≤ 1000000)
def isTicks (s : Int) : Bool := decide (-1099511627776 ≤ s) && decide (s ≤ 1099511627776)
def isHow (h : Int) : Bool := decide (h = 0) || decide (h = 1) || decide (h = 2)
def valid (n d : Int) : Bool := decide (1 ≤ d) && decide (d ≤ 1152921504606846976) && decide (-1152921504606846976 ≤ n) && decide (n ≤ 1152921504606846976)
def tm (n d : Int) : Value := .agg #[.int .i64 n, .int .i64 d]
def er (e : Int) : Value := .int .i64 e
set_option maxHeartbeats 1000000 in
theorem isScale_n (s : Int) (w : World) : Calls Tryz.prog 78 #[.int .i64 s] w (fun e w' => e = .returned (.bool (isScale s)) ∧ w = w') := by
 go_enter Tryz.func78, Tryz.ntmps78
 go_wp2
 all_goals
  go_ret
  refine ⟨ret_b ?_, rfl⟩
  unfold isScale
  first | (simp_all; done) | (simp_all; omega) | grind
set_option maxHeartbeats 1000000 in
theorem isTicks_n (s : Int) (w : World) : Calls Tryz.prog 132 #[.int .i64 s] w (fun e w' => e = .returned (.bool (isTicks s)) ∧ w = w') := by
 go_enter Tryz.func132, Tryz.ntmps132
 go_wp2
 all_goals
  go_ret
  refine ⟨ret_b ?_, rfl⟩
  unfold isTicks
  first | (simp_all; done) | (simp_all; omega) | grind
set_option maxHeartbeats 1000000 in
theorem isHow_n (s : Int) (w : World) : Calls Tryz.prog 79 #[.int .i64 s] w (fun e w' => e = .returned (.bool (isHow s)) ∧ w = w') := by
 go_enter Tryz.func79, Tryz.ntmps79
 go_wp2
 all_goals
  go_ret
  refine ⟨ret_b ?_, rfl⟩
  unfold isHow
  first | (simp_all; done) | (simp_all; omega) | grind
set_option maxHeartbeats 2000000 in
set_option maxRecDepth 100000 in
theorem Valid_n (n d : Int) (w : World) : Calls Tryz.prog 38 #[tm n d] w (fun e w' => e = .returned (.bool (valid n d)) ∧ Below w.heap.size w w') := by
 have hu := Tryz.underlying24
 unfold tm
 go_enter Tryz.func38, Tryz.ntmps38
 go_wp2
 all_goals
  go_ret
  refine ⟨ret_b ?_, below_alloc (Below.refl _ _) _⟩
  unfold valid
  first | (simp_all; done) | (simp_all; omega) | grind
end Go.Proofs.YtekommcfpjonmaaGreat.Ea
namespace Go.Proofs.YtekommcfpjonmaaGreat.Ra
open Go.RowKit Go Go.Proofs.YtekommcfpjonmaaGreatW.PrintWords Go.Proofs.YtekommcfpjonmaaGreatW.PrintLast Go.Proofs.YtekommcfpjonmaaGreatW.PrintMore Go.Proofs.YtekommcfpjonmaaGreat.Ml Go.Proofs.YtekommcfpjonmaaGreat.Mn Go.Proofs.YtekommcfpjonmaaGreat.Nd Go.Proofs.YtekommcfpjonmaaGreat.Z Go.Proofs.YtekommcfpjonmaaGreat.P Go.Proofs.YtekommcfpjonmaaGreat.Nc Go.Proofs.YtekommcfpjonmaaGreat.Nb Go.Proofs.YtekommcfpjonmaaGreat.Da Go.Proofs.YtekommcfpjonmaaGreat.Qa Go.Proofs.YtekommcfpjonmaaGreat.Qb Go.Proofs.YtekommcfpjonmaaGreat.Ea
set_option linter.unusedVariables false
set_option linter.unusedSimpArgs false
def ratN (n d : Int) : Int := if d < 0 then lowN (-n) (-d) else lowN n d
def ratD (n d : Int) : Int := if d < 0 then lowD (-n) (-d) else lowD n d
structure GcI (w0 w : World) (a b : Int) (n : Nat) (vg vr : Value) (k : Nat) : Prop where mk ::
 at_ : ∃ Ag cg lg Ar cr lr, vg = .slice Ag (List.length lg) cg ∧ vr = .slice Ar (List.length lr) cr ∧ lg.length ≤ cg ∧ lr.length ≤ cr ∧ Kd.C (Kd.int .u32) w Ag lg.length lg ∧ Kd.C (Kd.int .u32) w Ar lr.length lr ∧ Cn 4294967296 lg ∧ Cn 4294967296 lr ∧ lg.length ≤ n ∧ lr.length ≤ n ∧ Int.gcd (dv 4294967296 lg) (dv 4294967296 lr) = Int.gcd a b ∧ dv 4294967296 lr ≤ (k : Int)
 b : Below w0.heap.size w0 w
theorem dv_pos {l : List Int} (h : Cn 4294967296 l) (hl : l ≠ []) : 0 < dv 4294967296 l := by
 have h1 := dv_len (a := []) (by decide) (Dg.nil _) h (by cases l with | nil => exact absurd rfl hl | cons x t => simp)
 simpa only [dv] using h1
theorem gcd_step {x y q r : Int} (h : x = q * y + r) : Int.gcd y r = Int.gcd x y := by
 rw [h, Int.gcd_comm (q * y + r) y, Int.mul_comm]
 simp
theorem quo_exact {x g q r : Int} (hg : 0 < g) (hd : g ∣ x) (h0 : 0 ≤ r) (h1 : r < g) (h : x = q * g + r) : q = x / g := by
 have : x / g = q := by
  rw [h, Int.add_comm, Int.add_mul_ediv_right _ _ (by omega), Int.ediv_eq_zero_of_lt h0 h1]
  omega
 exact this.symm
theorem sg_quo {na nb : Bool} {a b A B G : Int} (ha : a = sg na A) (hb : b = sg nb B) (hA : 0 ≤ A) (hB : 0 < B) (hG : G = (Int.gcd a b : Nat)) : sg (!(na == nb)) (A / G) = ratN a b ∧ B / G = ratD a b := by
 have e : ∀ n : Int, Int.gcd (-n) b = Int.gcd n b := fun n => Int.neg_gcd
 have dA : G ∣ A := by
  have : G ∣ a := by rw [hG]; exact Int.gcd_dvd_left _ _
  rw [ha] at this
  cases na
  ·simpa [sg] using this
  ·simpa [sg] using this
 unfold ratN ratD lowN lowD
 cases nb with
 | true =>
  have hb' : b = -B := by simpa [sg] using hb
  rw [if_pos (by omega), if_pos (by omega)]
  rw [show Int.gcd (-a) (-b) = Int.gcd a b by rw [Int.neg_gcd, Int.gcd_neg], ← hG, hb', Int.neg_neg]
  cases na with
  | true =>
   have ha' : a = -A := by simpa [sg] using ha
   rw [ha', Int.neg_neg]
   exact ⟨rfl, rfl⟩
  | false =>
   have ha' : a = A := by simpa [sg] using ha
   rw [ha', Int.neg_ediv_of_dvd dA]
   exact ⟨rfl, rfl⟩
 | false =>
  have hb' : b = B := by simpa [sg] using hb
  rw [if_neg (by omega), if_neg (by omega), ← hG, hb']
  cases na with
  | true =>
   have ha' : a = -A := by simpa [sg] using ha
   rw [ha', Int.neg_ediv_of_dvd dA]
   exact ⟨rfl, rfl⟩
  | false =>
   have ha' : a = A := by simpa [sg] using ha
   rw [ha']
   exact ⟨rfl, rfl⟩
theorem sg_dvd {s : Bool} {x z g : Int} (h : z = sg s x) (hd : g ∣ z) : g ∣ x := by
 subst h
 cases s
 ·simpa [sg] using hd
 ·simpa [sg] using hd
def SfP (w : World) (gx : Nat) (a b : Int) (na nb B : Nat) (e : Ending) (w' : World) : Prop := e = .returned (.pointer (some ⟨gx, 0, none⟩)) ∧ Below B w w' ∧ IsN w' gx 0 (ratN a b) na ∧ IsN w' gx 2 (ratD a b) nb
theorem sg_bne (a b : Bool) : (a != b) = !(a == b) := by cases a <;> cases b <;> rfl
set_option maxHeartbeats 8000000 in
set_option maxRecDepth 100000 in
theorem setFrac_n (gx ga oa gb ob : Nat) (a b : Int) (na nb B : Nat) (w : World) (hx0 : Room w gx 0) (hx2 : Room w gx 2) (ha : IsN w ga oa a na) (hb : IsN w gb ob b nb) (hbp : b ≠ 0) (hl : na + nb ≤ 1000) (hB1 : B ≤ gx) :
  Calls Tryz.prog 135 #[.pointer (some ⟨gx, 0, none⟩), .pointer (some ⟨ga, oa, none⟩), .pointer (some ⟨gb, ob, none⟩)] w (SfP w gx a b na nb B) := by
 obtain ⟨nega, Aa, cca, la, sa, hca, ra, ca, hla, hza, qa⟩ := ha.open
 obtain ⟨negb, Ab, ccb, lb, sb, hcb, rb, cb, hlb, hzb, qb⟩ := hb.open
 have a1 := sa.cell1
 have b1 := sb.cell1
 have lgx := hx0.lt
 go_enter Tryz.func135, Tryz.ntmps135
 go_wp2_with fail
 refine start_ (n := 11) (S := fun w' => w'.cell? ⟨ga, oa + 1, none⟩ = some (.slice Aa la.length cca) ∧ w'.cell? ⟨gb, ob + 1, none⟩ = some (.slice Ab lb.length ccb)) (ds := []) (bs 11 0) (by kernel_rfl) rfl rfl ⟨a1, b1⟩ (fun hHeld => ?_)
 refine zP 0 16 11 1 ?_
 refine zP 1 17 11 3 ?_
 refine zP 2 18 11 7 ?_
 refine zP 5 21 11 39 ?_
 refine zP 6 22 11 103 ?_
 refine zP 7 23 11 231 ?_
 refine zT 3 19 11 239 hHeld ?_
 refine zT 8 24 11 495 hHeld ?_
 refine zN 4 (some 20) 11 511 (fun K hK => ?_)
 refine zG Tryz.func158 #[.slice Aa la.length cca] ?_
 with_reducible refine (clone_n Aa cca la w.drew hca (Kd.C_drew ra) (by omega)).mono ?_
 rintro e w2 ⟨v4, rfl, hM4, hb4⟩
 refine ⟨_, rfl, ?_⟩
 have hb4' := below_drew' hb4
 refine hK.out _ _ ⟨(sa.below hb4').cell1, (sb.below hb4').cell1⟩ (fun hHeld => ?_)
 clear hK K
 refine zM 20 ?_
 refine zP 9 7 11 1023 ?_
 refine zP 10 8 11 2047 ?_
 refine done_ (by kernel_rfl) ?_
 obtain ⟨A4, c4, rfl, hc4, r4⟩ := hM4
 have HI := Aside0.mk (show GcI w w2 a b (na + nb) (.slice A4 la.length c4) (.slice Ab lb.length ccb) (dv 4294967296 lb).toNat from
  ⟨⟨A4, c4, la, Ab, ccb, lb, rfl, rfl, hc4, hcb, r4, Kd.C_below rb hb4', ca, cb, by omega, by omega, by
   have p0 := dv_nonneg (by decide) ca.dg
   have p1 := dv_nonneg (by decide) cb.dg
   rw [hza, hzb]
   cases nega <;> cases negb <;> simp [sg, Int.neg_gcd, Int.gcd_neg], by have := dv_nonneg (by decide) cb.dg; omega⟩, hb4'⟩)
 have HH := Aside0.mk (And.intro ha (And.intro hb (And.intro hx0 hx2)))
 clear hHeld r4 hb4 hb4' hc4 a1 b1
 go_wp2_with fail
 go_loopg [7, 8] (dv 4294967296 lb).toNat (fun kq v7 v8 w' => Aside0 (GcI w w' a b (na + nb) v7 v8 kq))
 case atStart => exact HI
 case round =>
  clear HI
  obtain ⟨⟨⟨Ag, cg, lg, Ar, cr, lr, rfl, rfl, hcg, hcr, rg, rr, cag, car, hlg, hlr, hgc, hk⟩, hbw⟩⟩ := hrel
  by_cases hr : lr = []
  ·subst hr
   have hG : dv 4294967296 lg = (Int.gcd a b : Nat) := by
    have h0 := dv_nonneg (by decide) cag.dg
    rw [← hgc]
    simp only [dv, Int.gcd_zero]
    omega
   have hgp : 0 < dv 4294967296 lg := by
    have := Int.gcd_pos_of_ne_zero_right a hbp
    omega
   have hgn : lg ≠ [] := by rintro rfl; simp [dv] at hgp
   have sa' := sa.below hbw
   have sb' := sb.below hbw
   have a1 := sa'.cell1
   have b1 := sb'.cell1
   have RA := Aside0.mk (And.intro (Kd.C_below ra hbw) (And.intro (Kd.C_below rb hbw) rg))
   have HW := Aside0.mk (And.intro hbw (And.intro hG hgp))
   clear hbw hG hgp hgc hk rr rg
   go_wp2_with fail
   refine (divMag_n Aa cca la Ag cg lg wr hca RA.out.1 hcg RA.out.2.2 ca cag hgn (by omega) (by omega)).mono ?_
   rintro e w3 ⟨v0, v1, q1, r1, rfl, hq1, hr1, cq1, cr1, lq1, lr1, eq1, lt1, hb3⟩
   have a1' := (sa'.below hb3).cell1
   have b1' := (sb'.below hb3).cell1
   have K1 := Aside0.mk (And.intro hq1 (And.intro (quo_exact HW.out.2.2 (sg_dvd hza (HW.out.2.1 ▸ Int.gcd_dvd_left _ _)) (dv_nonneg (by decide) cr1.dg) lt1 eq1) hb3))
   clear hq1 hr1 cr1 lr1 eq1 lt1 a1 b1
   have hbw3 := HW.out.1.trans (hb3.mono HW.out.1.size)
   have HB3 := Aside0.mk hbw3
   go_wp2_with fail
   refine (divMag_n Ab ccb lb Ag cg lg w3 hcb (Kd.C_below RA.out.2.1 hb3) hcg (Kd.C_below RA.out.2.2 hb3) cb cag hgn (by omega) (by omega)).mono ?_
   rintro e w4 ⟨v2, v3, q2, r2, rfl, hq2, hr2, cq2, cr2, lq2, lr2, eq2, lt2, hb4⟩
   have hbw4 := hbw3.trans (hb4.mono hbw3.size)
   have sa4 := sa.below hbw4
   have sb4 := sb.below hbw4
   have a0 := sa4.cell0
   have b0 := sb4.cell0
   have K2 := Aside0.mk (And.intro hq2 (And.intro (quo_exact HW.out.2.2 (sg_dvd hzb (HW.out.2.1 ▸ Int.gcd_dvd_right _ _)) (dv_nonneg (by decide) cr2.dg) lt2 eq2) hb4))
   have HB4 := Aside0.mk hbw4
   clear hq2 hr2 cr2 lr2 eq2 lt2 a1' b1' hb3 hb4 hbw3 hbw4 sa' sb' HB3
   go_wp2_with fail
   refine start_ (n := 10) (S := fun w' => w'.cell? ⟨ga, oa, none⟩ = some (.bool nega) ∧ w'.cell? ⟨gb, ob, none⟩ = some (.bool negb)) (ds := []) (bs 10 0) (by kernel_rfl) rfl rfl ⟨a0, b0⟩ (fun hHeld => ?_)
   refine zP 0 54 10 1 ?_
   refine zP 1 55 10 3 ?_
   refine zP 2 56 10 7 ?_
   refine zP 4 58 10 23 ?_
   refine zP 5 59 10 55 ?_
   refine zP 6 60 10 119 ?_
   refine zT 3 57 10 127 hHeld ?_
   refine zT 7 61 10 255 hHeld ?_
   refine zP 8 62 10 511 ?_
   refine zP 9 15 10 1023 ?_
   refine done_ (by kernel_rfl) ?_
   have X := HH.out.2.2
   have hb5 : Below w4.heap.size w4 w4.drew := below_drew' (Below.refl _ _)
   have hbw5 := HB4.out.trans (hb5.mono HB4.out.size)
   go_wp2_with fail
   refine (set_n gx 0 v0 q1 (nega != negb) na w4.drew (X.1.below hbw5) ((K1.out.1.below K2.out.2.2).below hb5) cq1 (by omega)).mono ?_
   rintro e w6 ⟨rfl, hw6, hN6⟩
   have K3 := Aside0.mk (And.intro hw6 (And.intro hN6 (And.intro hbw5 ((K2.out.1.below hb5)))))
   clear hw6 hN6 hbw5 hb5 X
   go_wp2_with fail
   have hr2' : Room w6 gx 2 := by
    obtain ⟨n2, v2', h2⟩ := HH.out.2.2.2.below K3.out.2.2.1
    exact ⟨n2, v2', K3.out.1.slot h2 (.inr (by omega))⟩
   refine (set_n gx 2 v2 q2 false nb w6 hr2' (K3.out.1.mag (HH.out.2.2.1.below K3.out.2.2.1) K3.out.2.2.2) cq2 (by omega)).mono ?_
   rintro e w7 ⟨rfl, hw7, hN7⟩
   have K4 := Aside0.mk (And.intro hw7 hN7)
   clear hw7 hN7
   go_wp2_with fail
   go_ret
   have hsq := sg_quo hza hzb (dv_nonneg (by decide) ca.dg) (dv_pos cb (by rintro rfl; cases negb <;> simp [dv, sg] at hzb <;> exact hbp hzb)) HW.out.2.1
   rw [← K1.out.2.1, ← K2.out.2.1, ← sg_bne] at hsq
   have hs0 := K3.out.2.2.1.size
   refine ⟨rfl, ?_, hsq.1 ▸ K4.out.1.isN hr2' K3.out.2.1 (.inr (by omega)), hsq.2 ▸ K4.out.2⟩
   have hB : Below B w w4.drew := ⟨K3.out.2.2.1.os, K3.out.2.2.1.tape, K3.out.2.2.1.output, K3.out.2.2.1.size, fun i hi => K3.out.2.2.1.block i (by omega)⟩
   exact hB.trans ((K3.out.1.below hB1 (by omega)).trans (K4.out.1.below hB1 (by have := K3.out.1.size; omega)))
  ·cases gk with
   | zero =>
    exfalso
    have := dv_pos car hr
    omega
   | succ k1 =>
    have hpos : 0 < lr.length := by cases lr with | nil => exact absurd rfl hr | cons x t => simp
    have HW := Aside0.mk (And.intro hbw (And.intro hgc hk))
    have HR := Aside0.mk rr
    have HG := Aside0.mk rg
    clear hbw hgc hk rr rg
    go_wp2_with fail
    refine (divMag_n Ag cg lg Ar cr lr wr hcg HG.out hcr HR.out cag car hr (by omega) (by omega)).mono ?_
    rintro e w3 ⟨v0, v1, q1, r1, rfl, hq1, hr1, cq1, cr1, lq1, lr1, eq1, lt1, hb3⟩
    obtain ⟨A5, c5, rfl, hc5, r5⟩ := hr1
    have HW3 := Aside0.mk (HW.out.1.trans (hb3.mono HW.out.1.size))
    have HN := Aside0.mk (show GcI w w3 a b (na + nb) (.slice Ar lr.length cr) (.slice A5 r1.length c5) k1 from
     ⟨⟨Ar, cr, lr, A5, c5, r1, rfl, rfl, hcr, hc5, Kd.C_below HR.out hb3, r5, car, cr1, hlr, by omega, (gcd_step eq1).trans HW.out.2.1, by have := HW.out.2.2; omega⟩, HW3.out⟩)
    clear hq1 eq1 lt1 hb3 r5
    go_wp2_with fail
    go_roundg k1
    case measure => omega
    case rel => exact HN
theorem down_n (gx : Nat) (z : Int) (n : Nat) (w : World) (h : IsN w gx 2 z n) (hz : z ≠ 0) :
  Calls Tryz.prog 115 #[.pointer (some ⟨gx, 0, none⟩)] w (fun e w' => e = .returned (.pointer (some ⟨gx, 2, none⟩)) ∧ w = w') := by
 obtain ⟨neg, A, c, l, s, hc, r, cn, hl, hz2, q⟩ := h.open
 have a1 := s.cell1
 have hln : ((l.length : Int) == 0) = false := by
  cases l with
  | nil => exfalso; cases neg <;> simp [dv, sg] at hz2 <;> exact hz hz2
  | cons x t => simp; omega
 go_enter Tryz.func115, Tryz.ntmps115
 go_wp2_with fail
 go_ret
 exact ⟨rfl, rfl⟩
theorem denom_n (gx : Nat) (z : Int) (n : Nat) (w : World) (h : IsN w gx 2 z n) (hz : z ≠ 0) :
  Calls Tryz.prog 117 #[.pointer (some ⟨gx, 0, none⟩)] w (fun e w' => e = .returned (.pointer (some ⟨gx, 2, none⟩)) ∧ w = w') := by
 have HD := Aside0.mk (down_n gx z n w h hz)
 go_enter Tryz.func117, Tryz.ntmps117
 go_wp2_with fail
 refine HD.out.mono ?_
 rintro e w2 ⟨rfl, rfl⟩
 go_wp2_with fail
 go_ret
 exact ⟨rfl, rfl⟩
theorem num_n (gx : Nat) (w : World) :
  Calls Tryz.prog 116 #[.pointer (some ⟨gx, 0, none⟩)] w (fun e w' => e = .returned (.pointer (some ⟨gx, 0, none⟩)) ∧ w = w') := by
 go_enter Tryz.func116, Tryz.ntmps116
 go_wp2_with fail
 go_ret
 exact ⟨rfl, rfl⟩
end Go.Proofs.YtekommcfpjonmaaGreat.Ra
namespace Go.Proofs.YtekommcfpjonmaaGreat.Rf
open Go.RowKit Go Go.Proofs.YtekommcfpjonmaaGreatW.PrintWords Go.Proofs.YtekommcfpjonmaaGreatW.PrintLast Go.Proofs.YtekommcfpjonmaaGreatW.PrintMore Go.Proofs.YtekommcfpjonmaaGreat.Ml Go.Proofs.YtekommcfpjonmaaGreat.Mn Go.Proofs.YtekommcfpjonmaaGreat.Nd Go.Proofs.YtekommcfpjonmaaGreat.Z Go.Proofs.YtekommcfpjonmaaGreat.Ea Go.Proofs.YtekommcfpjonmaaGreat.Ra
set_option linter.unusedVariables false
set_option linter.unusedSimpArgs false
def qq (a b : Int) : Rat := Rat.divInt a b
theorem rat_low {a b : Int} (hb : b ≠ 0) : ratN a b = (qq a b).num ∧ ratD a b = ((qq a b).den : Int) := by
 unfold qq ratN ratD lowN lowD
 rw [Rat.num_divInt, Rat.den_divInt, if_neg hb]
 rcases Int.lt_or_le b 0 with h | h
 ·rw [if_pos h, if_pos h, Int.sign_eq_neg_one_of_neg h, Int.neg_gcd, Int.gcd_neg, Int.gcd_comm b a]
  refine ⟨by rw [Int.neg_one_mul], ?_⟩
  rw [Int.natCast_ediv, Int.ofNat_natAbs_of_nonpos (by omega)]
 ·rw [if_neg (by omega), if_neg (by omega), Int.sign_eq_one_of_pos (by omega), Int.gcd_comm b a]
  refine ⟨by rw [Int.one_mul], ?_⟩
  rw [Int.natCast_ediv, Int.natAbs_of_nonneg h]
def cmpQ (p q : Rat) : Int := if p < q then -1 else if q < p then 1 else 0
end Go.Proofs.YtekommcfpjonmaaGreat.Rf
namespace Go.Proofs.YtekommcfpjonmaaGreat.Sx
open Go.RowKit Go Go.Proofs.YtekommcfpjonmaaGreatW.PrintWords Go.Proofs.YtekommcfpjonmaaGreatW.PrintLast Go.Proofs.YtekommcfpjonmaaGreatW.PrintMore Go.Proofs.YtekommcfpjonmaaGreat.Mn Go.Proofs.YtekommcfpjonmaaGreat.Rf Go.Proofs.YtekommcfpjonmaaGreat.E Go.Proofs.YtekommcfpjonmaaGreat.Sg
set_option linter.unusedVariables false
set_option linter.unusedSimpArgs false
abbrev Tm := S24
abbrev Sn := S53
def vT (t : Tm) : Bool := Ea.valid t.f0 t.f1
def qT (t : Tm) : Rat := qq t.f0 t.f1
def lT (q : Rat) : Tm := ⟨q.num, (q.den : Int)⟩
theorem vT_is {t : Tm} (h : vT t = true) : (-1152921504606846976 ≤ t.f0 ∧ t.f0 ≤ 1152921504606846976) ∧ 1 ≤ t.f1 ∧ t.f1 ≤ 1152921504606846976 := by
 unfold vT Ea.valid at h
 simp only [Bool.and_eq_true, decide_eq_true_eq] at h
 omega
theorem qT_lT (q : Rat) : qT (lT q) = q := Rat.num_divInt_den q
theorem parts {a b : Int} (hb : 0 < b) : ∃ g : Int, 0 < g ∧ a = (qq a b).num * g ∧ b = ((qq a b).den : Int) * g := by
 obtain ⟨h1, h2⟩ := rat_low (a := a) (b := b) (by omega)
 refine ⟨(Int.gcd a b : Nat), ?_, ?_, ?_⟩
 ·have := Int.gcd_pos_of_ne_zero_right a (show b ≠ 0 by omega)
  omega
 ·rw [← h1]
  unfold Ra.ratN Ea.lowN
  rw [if_neg (by omega)]
  exact (Int.ediv_mul_cancel (Int.gcd_dvd_left a b)).symm
 ·rw [← h2]
  unfold Ra.ratD Ea.lowD
  rw [if_neg (by omega)]
  exact (Int.ediv_mul_cancel (Int.gcd_dvd_right a b)).symm
theorem vT_low {t : Tm} (h : vT t = true) : vT (lT (qT t)) = true := by
 have hv := vT_is h
 obtain ⟨g, hg, e1, e2⟩ := parts (a := t.f0) (b := t.f1) (by omega)
 unfold vT Ea.valid lT qT
 generalize hN : (qq t.f0 t.f1).num = N at *
 have hD0 : 0 < ((qq t.f0 t.f1).den : Int) := by have := (qq t.f0 t.f1).den_pos; omega
 generalize ((qq t.f0 t.f1).den : Int) = D at *
 have k1 : D ≤ D * g := by
  have := Int.mul_le_mul_of_nonneg_left (show 1 ≤ g by omega) (Int.le_of_lt hD0)
  omega
 have k2 : N ≤ 1152921504606846976 := by
  refine Int.not_lt.1 fun hc => ?_
  have := Int.mul_le_mul_of_nonneg_left (show 1 ≤ g by omega) (show 0 ≤ N by omega)
  omega
 have k3 : -1152921504606846976 ≤ N := by
  refine Int.not_lt.1 fun hc => ?_
  have := Int.mul_le_mul_of_nonneg_left (show 1 ≤ g by omega) (show 0 ≤ -N by omega)
  simp only [Int.neg_mul] at this
  omega
 simp only [Bool.and_eq_true, decide_eq_true_eq]
 omega
theorem lT_inj {p q : Rat} (h : lT p = lT q) : p = q := by rw [← qT_lT p, h, qT_lT]
def qS (s : Sn) : Sq := (qT s.f0, qT s.f1)
def lS (s : Sq) : Sn := ⟨lT s.1, lT s.2⟩
theorem qS_lS (s : Sq) : qS (lS s) = s := Prod.ext (qT_lT _) (qT_lT _)
def vS (s : Sn) : Bool := vT s.f0 && (vT s.f1 && !(decide (qT s.f1 < qT s.f0)))
theorem vS_is {s : Sn} (h : vS s = true) : vT s.f0 = true ∧ vT s.f1 = true ∧ qT s.f0 ≤ qT s.f1 := by
 unfold vS at h
 simp only [Bool.and_eq_true, Bool.not_eq_true', decide_eq_false_iff_not] at h
 exact ⟨h.1, h.2.1, Rat.not_lt.1 h.2.2⟩
def ins (a : Sq) : List Sq → List Sq
 | [] => [a]
 | x :: l => if a.1 ≤ x.1 then a :: x :: l else x :: ins a l
def srt : List Sq → List Sq
 | [] => []
 | a :: l => ins a (srt l)
theorem ins_mem {a s : Sq} : ∀ {l : List Sq}, s ∈ ins a l ↔ s = a ∨ s ∈ l
 | [] => by simp [ins]
 | x :: l => by
  rw [ins]
  split
  ·simp
  ·rw [List.mem_cons, ins_mem, List.mem_cons]
   constructor
   ·rintro (h | h | h) <;> simp [h]
   ·rintro (h | h | h) <;> simp [h]
theorem srt_mem {s : Sq} : ∀ {l : List Sq}, s ∈ srt l ↔ s ∈ l
 | [] => Iff.rfl
 | a :: l => by rw [srt, ins_mem, srt_mem, List.mem_cons]
theorem ins_od {a : Sq} (ha : a.1 < a.2) : ∀ {l : List Sq}, Od l → Od (ins a l)
 | [], _ => ⟨ha, by simp, trivial⟩
 | x :: l, h => by
  rw [ins]
  split
  ·rename_i hc
   refine ⟨ha, fun y hy => ?_, h⟩
   rcases List.mem_cons.1 hy with rfl | hy
   ·exact hc
   ·have := h.2.1 y hy
    grind
  ·rename_i hc
   refine ⟨h.1, fun y hy => ?_, ins_od ha h.2.2⟩
   rcases ins_mem.1 hy with rfl | hy
   ·grind
   ·exact h.2.1 y hy
def full (l : List Sq) : List Sq := l.filter (fun s => decide (s.1 < s.2))
theorem full_in {l : List Sq} {q : Rat} : inS (full l) q ↔ inS l q := by
 unfold inS full
 constructor
 ·rintro ⟨s, hs, h⟩
  exact ⟨s, (List.mem_filter.1 hs).1, h⟩
 ·rintro ⟨s, hs, h⟩
  refine ⟨s, List.mem_filter.2 ⟨hs, ?_⟩, h⟩
  rw [decide_eq_true_eq]
  grind
theorem srt_od : ∀ {l : List Sq}, (∀ s ∈ l, s.1 < s.2) → Od (srt l)
 | [], _ => trivial
 | a :: l, h => ins_od (h a (by simp)) (srt_od (fun s hs => h s (by simp [hs])))
theorem mem_in {l m : List Sq} (h : ∀ s, s ∈ l ↔ s ∈ m) (q : Rat) : inS l q ↔ inS m q := by
 unfold inS
 constructor
 ·rintro ⟨s, hs, k⟩
  exact ⟨s, (h s).1 hs, k⟩
 ·rintro ⟨s, hs, k⟩
  exact ⟨s, (h s).2 hs, k⟩
def cnl (l : List Sq) : List Sq := mrg (srt (full l))
theorem full_lt {l : List Sq} : ∀ s ∈ full l, s.1 < s.2 := fun s hs => by
 have := (List.mem_filter.1 hs).2
 simpa using this
theorem cnl_cn (l : List Sq) : Cn (cnl l) := mrg_cn (srt_od full_lt)
theorem cnl_in (l : List Sq) (q : Rat) : inS (cnl l) q ↔ inS l q := (mrg_in (srt_od full_lt) q).trans ((mem_in (fun s => srt_mem) q).trans full_in)
theorem cnl_of {l m : List Sq} (hc : Cn m) (h : ∀ q, inS m q ↔ inS l q) : m = cnl l := cn_uniq m (cnl l) hc (cnl_cn l) (fun q => (h q).trans (cnl_in l q).symm)
theorem cnl_sorted {l m : List Sq} (ho : Od m) (hm : ∀ s, s ∈ m ↔ s ∈ full l) : mrg m = cnl l :=
 cnl_of (mrg_cn ho) (fun q => (mrg_in ho q).trans ((mem_in hm q).trans full_in))
end Go.Proofs.YtekommcfpjonmaaGreat.Sx
namespace Go.Proofs.YtekommcfpjonmaaGreat.Os
open Go.ChangeShapes Go.WideShapes Go.ChangeAt Go.RowKit Go.Joins Go.Deep Go.Proofs.YtekommcfpjonmaaGreatW.PrintWords Go.Proofs.YtekommcfpjonmaaGreatW.PrintLast Go.Proofs.YtekommcfpjonmaaGreatW.PrintMore Go.Proofs.YtekommcfpjonmaaGreat.E
set_option linter.unusedVariables false
theorem laidOut : laidOutB Tryz.prog = true := by kernel_rfl
theorem own : ownKnob Tryz.prog.godebug = none := by kernel_rfl
section
variable {H : Type} {enc : TypeId × Value → H} {w : World} {base : Nat} {spare : Nat → Bool} {held : Bool}
theorem one_int {n : Nat} {v : Value} {y : DataW H × List MemPlace} (h : DataW.trod enc Tryz.prog w base spare held n 3 [v] = some y) : ∃ z, v = .int .i64 z ∧ (Lit.int .i64 z).wf = true := by
 obtain ⟨z, hz, _, hw⟩ := DataW.trod_int Tryz.underlying3 h
 simp only [List.cons.injEq, and_true] at hz
 exact ⟨z, hz, hw⟩
theorem four {α : Type} {l : List α} (h : l.length = 4) : ∃ a b c d, l = [a, b, c, d] := by
 match l, h with
 | [a, b, c, d], _ => exact ⟨a, b, c, d, rfl⟩
theorem len2 {α : Type} {l : List α} (h : l.length = 2) : ∃ a b, l = [a, b] := by
 match l, h with
 | [a, b], _ => exact ⟨a, b, rfl⟩
set_option maxRecDepth 100000 in
theorem one_time {n : Nat} {cs : List Value} {y : DataW H × List MemPlace} (h : DataW.trod enc Tryz.prog w base spare held n 24 cs = some y) : ∃ a b, cs = [.int .i64 a, .int .i64 b] ∧ (Lit.int .i64 a).wf = true ∧ (Lit.int .i64 b).wf = true := by
 obtain ⟨xs, k, _, hx, hl, hlen, hg⟩ := DataW.trod_struct Tryz.underlying24 h
 obtain ⟨a, b, rfl⟩ := len2 (hl.trans (by kernel_rfl : Tryz.prog.cellsOf 24 = 2))
 obtain ⟨y0, y1, rfl⟩ := len2 hlen
 have h0 := hg 0 _ rfl
 have h1 := hg 1 _ rfl
 simp only [List.getElem?_cons_zero, List.getElem?_cons_succ] at h0 h1
 obtain ⟨z0, rfl, w0⟩ := one_int h0
 obtain ⟨z1, rfl, w1⟩ := one_int h1
 exact ⟨z0, z1, rfl, w0, w1⟩
set_option maxRecDepth 100000 in
theorem one_span {n : Nat} {cs : List Value} {y : DataW H × List MemPlace} (h : DataW.trod enc Tryz.prog w base spare held n 53 cs = some y) : ∃ x : S53, cs = [.int .i64 x.f0.f0, .int .i64 x.f0.f1, .int .i64 x.f1.f0, .int .i64 x.f1.f1] := by
 obtain ⟨xs, k, _, hx, hl, hlen, hg⟩ := DataW.trod_struct Tryz.underlying53 h
 obtain ⟨a, b, c, d, rfl⟩ := four (hl.trans (by kernel_rfl : Tryz.prog.cellsOf 53 = 4))
 obtain ⟨y0, y1, rfl⟩ := len2 hlen
 have h0 := hg 0 _ rfl
 have h1 := hg 1 _ rfl
 simp only [List.getElem?_cons_zero, List.getElem?_cons_succ] at h0 h1
 obtain ⟨n0, m0, e0, _, _⟩ := one_time h0
 obtain ⟨n1, m1, e1, _, _⟩ := one_time h1
 have e0' : [a, b] = [.int .i64 n0, .int .i64 m0] := e0
 have e1' : [c, d] = [.int .i64 n1, .int .i64 m1] := e1
 simp only [List.cons.injEq, and_true] at e0' e1'
 obtain ⟨rfl, rfl⟩ := e0'
 obtain ⟨rfl, rfl⟩ := e1'
 exact ⟨⟨⟨n0, m0⟩, ⟨n1, m1⟩⟩, rfl⟩
structure Sps (w : World) (a : Option Addr) (len cap : Nat) (l : List S53) : Prop where
 n : l.length = len
 c : Kd.C k53 w a l.length l
 h : l.length ≤ cap
theorem list_of {α : Type} (P : Nat → α → Prop) (n : Nat) (h : ∀ i, i < n → ∃ x, P i x) : ∃ l : List α, l.length = n ∧ ∀ i x, l[i]? = some x → P i x := by
 induction n with
 | zero => exact ⟨[], rfl, by simp⟩
 | succ n ih =>
  obtain ⟨l, hl, hp⟩ := ih (fun i hi => h i (by omega))
  obtain ⟨x, hx⟩ := h n (by omega)
  refine ⟨l ++ [x], by simp [hl], fun i y hy => ?_⟩
  by_cases hi : i < l.length
  ·rw [List.getElem?_append_left hi] at hy
   exact hp i y hy
  ·have hi2 : i = l.length := by
    have := (List.getElem?_eq_some_iff.1 hy).1
    simp only [List.length_append, List.length_cons, List.length_nil] at this
    omega
   subst hi2
   simp only [Nat.le_refl, List.getElem?_append_right, Nat.sub_self, List.getElem?_cons_zero, Option.some.injEq] at hy
   subst hy
   rw [hl]
   exact hx
theorem slice_spans {n : Nat} {a : Option Addr} {len cap : Nat} {y : DataW H × List MemPlace} (h : DataW.trod enc Tryz.prog w base spare held n 22 [.slice a len cap] = some y) : ∃ l, Sps w a len cap l := by
 rcases open_slice Tryz.underlying22 h with ⟨hcs, _⟩ | ⟨x, l, c, m, k, D, Pl, hcs, _, hl, hm, hmm, _, hi⟩
 ·simp only [List.cons.injEq, and_true, Value.slice.injEq] at hcs
  obtain ⟨rfl, rfl, rfl⟩ := hcs
  exact ⟨[], rfl, Kd.C_nil _ _, Nat.le_refl _⟩
 ·simp only [List.cons.injEq, and_true, Value.slice.injEq] at hcs
  obtain ⟨rfl, rfl, rfl⟩ := hcs
  have hC : Tryz.prog.cellsOf 53 = 4 := by kernel_rfl
  have hlm : len ≤ m := by rw [hmm]; split <;> omega
  obtain ⟨L, hL, hp⟩ := list_of (fun i (z : S53) => (∀ j u, ([.int .i64 z.f0.f0, .int .i64 z.f0.f1, .int .i64 z.f1.f0, .int .i64 z.f1.f1] : List Value)[j]? = some u → w.cell? (x.add (i * 4 + j)) = some u)) len (fun i hlt => by
   obtain ⟨cs', hc, ht⟩ := hi i (by omega)
   obtain ⟨z, rfl⟩ := one_span ht
   rw [hC] at hc
   obtain ⟨_, _, hat⟩ := World.cells?_some hc
   refine ⟨z, fun j u hu => ?_⟩
   have hj : j < 4 := (List.getElem?_eq_some_iff.1 hu).1
   have := hat j hj
   rw [← Go.Deep.add_add, this, hu])
  exact ⟨L, hL, ⟨rfl, by have := hm; unfold maxLen at this; omega, fun _ => ⟨x, rfl, fun j p hj => ⟨_, rfl, k53_mk w p, (hp j p hj)⟩⟩⟩, by omega⟩
set_option maxRecDepth 100000 in
theorem open_spans {r : Reach} {b0 : Nat} {v : Value} {d : DataW H} {p : List MemPlace} (hv : Value.okWide Tryz.prog w r b0 22 v) (h : DataW.Trod enc Tryz.prog w base spare held 22 v d p) :
  ∃ a len cap l, v = .slice a len cap ∧ Sps w a len cap l := by
 obtain ⟨a, len, cap, rfl⟩ := okWide_slice Tryz.underlying22 hv
 obtain ⟨fuel, hf⟩ := h
 obtain ⟨l, hl⟩ := slice_spans (a := a) (len := len) (cap := cap) hf
 exact ⟨a, len, cap, l, rfl, hl⟩
set_option maxRecDepth 100000 in
theorem open_time {r : Reach} {b0 : Nat} {v : Value} {d : DataW H} {p : List MemPlace} (hv : Value.okWide Tryz.prog w r b0 24 v) (h : DataW.Trod enc Tryz.prog w base spare held 24 v d p) :
  ∃ n m : Int, v = .agg #[.int .i64 n, .int .i64 m] ∧ (Lit.int .i64 n).wf = true ∧ (Lit.int .i64 m).wf = true := by
 obtain ⟨v0, v1, y0, y1, k, rfl, _, _, h0, h1⟩ := open_agg2 Tryz.underlying24 (by kernel_rfl) (by kernel_rfl) hv h
 obtain ⟨n, rfl, hn⟩ := one_int h0
 obtain ⟨m, rfl, hm⟩ := one_int h1
 exact ⟨n, m, rfl, hn, hm⟩
end
end Go.Proofs.YtekommcfpjonmaaGreat.Os

/-
  Times and spans of the program as rational numbers; the clean list as a plain value. What exact's functions of spans tell, as plain values; join and touching. exact's functions of ticks: product, rounded, From, Ticks, Whole, Rescale. exact.Rescale; valid, little, cmp, add; the law's awake.
-/
import Derived.Test.YtekommcfpjonmaaGreatQREditBacka
import Derived.Test.YtekommcfpjonmaaGreatQREditBackc
import Derived.Test.YtekommcfpjonmaaGreatQREditBacke
import Derived.Test.YtekommcfpjonmaaGreatQREditBackf
import Derived.Test.YtekommcfpjonmaaGreatQREditBackd
import Derived.Test.YtekommcfpjonmaaGreatQREditBackb
set_option linter.unusedVariables false
set_option linter.unusedSimpArgs false
set_option maxHeartbeats 8000000
set_option maxRecDepth 100000
namespace Go.Proofs.YtekommcfpjonmaaGreat.E
open Z RowKit YtekommcfpjonmaaGreatW.PrintWords YtekommcfpjonmaaGreatW.PrintLast YtekommcfpjonmaaGreatW.PrintMore
attribute [local go_sem] max2_int min2_int max_two min_two
attribute [local go_sem high] eqA24
mutual
def dioramaref02_joined.l0 : Nat → List (S53) → List (S53) → Int → List (S24) → List (S53) → Int → Option ((List (S53)))
  | 0, _, _, _, _, _, _ => none
  | k + 1, x0, x1, x2, x8, x9, x10 => if (wrap64 (x10 + 1)) < (x8.length : Int) then (if 0 ≤ x10 then (if x10 < (x8.length : Int) then ((dioramaref02_inside.f k x0 ((rd_T24 x8 x10).f0) ((rd_T24 x8 x10).f1)).bind fun t401 => ((dioramaref02_inside.f k x1 ((rd_T24 x8 x10).f0) ((rd_T24 x8 x10).f1)).bind fun t403 => (if x2 = 0 then (if t401 = true then (if x2 = 1 then (if t403 = true then (if x2 = 2 then (dioramaref02_joined.j1 k x0 x1 x2 x8 x9 x10 (!(!t403))) else (dioramaref02_joined.j1 k x0 x1 x2 x8 x9 x10 false)) else (dioramaref02_joined.j1 k x0 x1 x2 x8 x9 x10 true)) else (if x2 = 2 then (dioramaref02_joined.j1 k x0 x1 x2 x8 x9 x10 (!(!t403))) else (dioramaref02_joined.j1 k x0 x1 x2 x8 x9 x10 false))) else (if t403 = true then (if x2 = 1 then (dioramaref02_joined.j1 k x0 x1 x2 x8 x9 x10 true) else (if x2 = 2 then (dioramaref02_joined.j1 k x0 x1 x2 x8 x9 x10 (!false)) else (dioramaref02_joined.j1 k x0 x1 x2 x8 x9 x10 false))) else (dioramaref02_joined.j1 k x0 x1 x2 x8 x9 x10 true))) else (if x2 = 1 then (if t401 = true then (if t403 = true then (if x2 = 2 then (dioramaref02_joined.j1 k x0 x1 x2 x8 x9 x10 (!(!t403))) else (dioramaref02_joined.j1 k x0 x1 x2 x8 x9 x10 false)) else (dioramaref02_joined.j1 k x0 x1 x2 x8 x9 x10 true)) else (dioramaref02_joined.j1 k x0 x1 x2 x8 x9 x10 true)) else (if x2 = 2 then (if t401 = true then (dioramaref02_joined.j1 k x0 x1 x2 x8 x9 x10 (!(!t403))) else (dioramaref02_joined.j1 k x0 x1 x2 x8 x9 x10 (!false))) else (dioramaref02_joined.j1 k x0 x1 x2 x8 x9 x10 false)))))) else (none)) else (none)) else (some x9)
def dioramaref02_joined.j1 : Nat → List (S53) → List (S53) → Int → List (S24) → List (S53) → Int → Bool → Option ((List (S53)))
  | 0, _, _, _, _, _, _, _ => none
  | k + 1, x0, x1, x2, x8, x9, x10, x72 => if x72 = true then (dioramaref02_joined.l0 k x0 x1 x2 x8 x9 (wrap64 (x10 + 1))) else (if (x9.length : Int) > 0 then (if 0 ≤ (wrap64 ((x9.length : Int) - 1)) then (if (wrap64 ((x9.length : Int) - 1)) < (x9.length : Int) then (if 0 ≤ x10 then (if x10 < (x8.length : Int) then (if (((rd_T53 x9 (wrap64 ((x9.length : Int) - 1))).f1.f0) == ((rd_T24 x8 x10).f0) && (((rd_T53 x9 (wrap64 ((x9.length : Int) - 1))).f1.f1) == ((rd_T24 x8 x10).f1))) = true then (if 0 ≤ (wrap64 (x10 + 1)) then (if (wrap64 (x10 + 1)) < (x8.length : Int) then (dioramaref02_joined.l0 k x0 x1 x2 x8 (x9.set ((wrap64 ((x9.length : Int) - 1)) : Int).toNat (⟨(⟨(rd_T53 x9 (wrap64 ((x9.length : Int) - 1))).f0.f0, (rd_T53 x9 (wrap64 ((x9.length : Int) - 1))).f0.f1⟩ : S24), (⟨(rd_T24 x8 (wrap64 (x10 + 1))).f0, (rd_T24 x8 (wrap64 (x10 + 1))).f1⟩ : S24)⟩ : S53)) (wrap64 (x10 + 1))) else (none)) else (none)) else (if 0 ≤ (wrap64 (x10 + 1)) then (if (wrap64 (x10 + 1)) < (x8.length : Int) then (if x9.length < 4398046511104 then (dioramaref02_joined.l0 k x0 x1 x2 x8 (x9 ++ [(⟨(⟨(rd_T24 x8 x10).f0, (rd_T24 x8 x10).f1⟩ : S24), (⟨(rd_T24 x8 (wrap64 (x10 + 1))).f0, (rd_T24 x8 (wrap64 (x10 + 1))).f1⟩ : S24)⟩ : S53)]) (wrap64 (x10 + 1))) else (none)) else (none)) else (none))) else (none)) else (none)) else (none)) else (none)) else (if 0 ≤ x10 then (if x10 < (x8.length : Int) then (if 0 ≤ (wrap64 (x10 + 1)) then (if (wrap64 (x10 + 1)) < (x8.length : Int) then (if x9.length < 4398046511104 then (dioramaref02_joined.l0 k x0 x1 x2 x8 (x9 ++ [(⟨(⟨(rd_T24 x8 x10).f0, (rd_T24 x8 x10).f1⟩ : S24), (⟨(rd_T24 x8 (wrap64 (x10 + 1))).f0, (rd_T24 x8 (wrap64 (x10 + 1))).f1⟩ : S24)⟩ : S53)]) (wrap64 (x10 + 1))) else (none)) else (none)) else (none)) else (none)) else (none)))
end
def dioramaref02_joined.f (k : Nat) (l0 : List (S53)) (l1 : List (S53)) (a2 : Int) : Option ((List (S53))) := (some (([] : List (S53)) : List (S53))).bind fun y388 => (if y388.length + l0.length < 4398046511104 then ((some (y388 ++ l0 : List (S53))).bind fun y391 => (if y391.length + l1.length < 4398046511104 then ((dioramaref02_ends.f k (y391 ++ l1)).bind fun t397 => (dioramaref02_joined.l0 k l0 l1 a2 t397 ([] : List (S53)) 0)) else (none))) else (none))
theorem dioramaref02_joined.calls (k : Nat) (A0 : Option Addr) (c0 : Nat) (l0 : List (S53)) (A1 : Option Addr) (c1 : Nat) (l1 : List (S53)) (a2 : Int) (r : List (S53)) (w : World) (hr0 : Kd.C k53 w A0 l0.length l0) (hc0 : l0.length ≤ c0) (hr1 : Kd.C k53 w A1 l1.length l1) (hc1 : l1.length ≤ c1) (h : dioramaref02_joined.f k l0 l1 a2 = some r) :
  Calls Tryz.prog 44 #[.slice A0 l0.length c0, .slice A1 l1.length c1, .int .i64 a2] w fun e w' => ∃ v0_ : Value, e = .returned (v0_) ∧ Kd.R k53 53 w' w.heap.size (fun _ => True) v0_ r ∧ Below w.heap.size w w' := by
 have hu24 := Tryz.underlying24; have hu53 := Tryz.underlying53; have HR0 := aS hr0; have HC0 := aS hc0; clear hr0 hc0; have HR1 := aS hr1; have HC1 := aS hc1; clear hr1 hc1; have HB := aS (Below.refl w.heap.size w); have H : ((some (([] : List (S53)) : List (S53))).bind fun y388 => (if y388.length + l0.length < 4398046511104 then ((some (y388 ++ l0 : List (S53))).bind fun y391 => (if y391.length + l1.length < 4398046511104 then ((dioramaref02_ends.f k (y391 ++ l1)).bind fun t397 => (dioramaref02_joined.l0 k l0 l1 a2 t397 ([] : List (S53)) 0)) else (none))) else (none))) = some r := h
 clear h; obtain ⟨y388, hy388⟩ : ∃ y_ : List (S53), y_ = (([] : List (S53))) := ⟨_, rfl⟩; replace H : (if y388.length + l0.length < 4398046511104 then ((some (y388 ++ l0 : List (S53))).bind fun y391 => (if y391.length + l1.length < 4398046511104 then ((dioramaref02_ends.f k (y391 ++ l1)).bind fun t397 => (dioramaref02_joined.l0 k l0 l1 a2 t397 ([] : List (S53)) 0)) else (none))) else (none)) = some r := by first | (rw [hy388]; with_reducible exact H) | (have H2_ := (Option.bind_some _ _).symm.trans H; rw [hy388]; with_reducible exact H2_) | (have H2_ := (Option.bind_some _ _).symm.trans H; with_reducible exact H2_) | with_reducible exact H | (rw [hy388]; exact H) | exact H
 have Ny388 := aS hy388; clear hy388
 by_cases c4 : y388.length + l0.length < 4398046511104
 ·rw [if_pos c4] at H; have LMc4 := aS c4; clear c4; obtain ⟨y391, hy391⟩ : ∃ y_ : List (S53), y_ = (y388 ++ l0) := ⟨_, rfl⟩; replace H : (if y391.length + l1.length < 4398046511104 then ((dioramaref02_ends.f k (y391 ++ l1)).bind fun t397 => (dioramaref02_joined.l0 k l0 l1 a2 t397 ([] : List (S53)) 0)) else (none)) = some r := by first | (rw [hy391]; with_reducible exact H) | (have H2_ := (Option.bind_some _ _).symm.trans H; rw [hy391]; with_reducible exact H2_) | (have H2_ := (Option.bind_some _ _).symm.trans H; with_reducible exact H2_) | with_reducible exact H | (rw [hy391]; exact H) | exact H
  have Ny391 := aS hy391; clear hy391
  by_cases c5 : y391.length + l1.length < 4398046511104
  ·rw [if_pos c5] at H; have LMc5 := aS c5; clear c5; obtain ⟨y394, hy394⟩ : ∃ y_ : List (S53), y_ = (y391 ++ l1) := ⟨_, rfl⟩; replace H : ((dioramaref02_ends.f k y394).bind fun t397 => (dioramaref02_joined.l0 k l0 l1 a2 t397 ([] : List (S53)) 0)) = some r := by first | (rw [hy394]; with_reducible exact H) | (have H2_ := (Option.bind_some _ _).symm.trans H; rw [hy394]; with_reducible exact H2_) | (have H2_ := (Option.bind_some _ _).symm.trans H; with_reducible exact H2_) | with_reducible exact H | (rw [hy394]; exact H) | exact H
   have Ny394 := aS hy394; clear hy394; obtain ⟨t397, A6, H⟩ := ob H; have H' := aS H; clear H
   go_enter Tryz.func44, Tryz.ntmps44
   go_wp2_with (first | ((with_reducible refine gate_dst (N := 14) rfl ?_); refine Kd.R_lit k53 _ 53 ?hg (N := 14) ?hd (xs := ([] : List (S53))) (inner := []) (ok := fun _ => True) (okp := fun _ => True) ?hr ?hp (fun _ hk => hk) trivial (Below.refl _ _) (Nat.le_refl _) (by simp) ?_; (case hd => rfl); (case hg => rfl); (case hr => first | (go_simp; done) | (go_simp; rfl)); (case hp => exact (Reps.none _ _)); intro v389 w7 ho8 hb hg_ hnew_; clear hg_ hnew_; (first | rw [← Ny388.out] at ho8 | (simp only [Int.reduceToNat] at ho8; rw [← Ny388.out] at ho8)); have HO390 := aS (Kd.R_lower ho8 sz); replace HB := bp hb; clear hb ho8) | ((with_reducible refine gate_builtin (b := .append) (xs := #[.tmp 14, .tmp 15]) rfl ?_); at_builtin; refine Kd.R_append_rows k53 (w0 := w) w.heap.size rfl (.tmp 14) (.tmp 15) 22 53 (.agg #[(.int .i64 0), (.int .i64 0), (.int .i64 0), (.int .i64 0)]) 32 rfl Tryz.underlying22 info53 rfl (by decide) (by omega) v389 y388 l0 _ _ _ (fun _ => True) (fun _ => False) rfl rfl ?aO ?aR (fun _ _ h => h) (fun _ h => h.elim) ?aF ?aB ?aS ?aL ?_; (case aR => repeat (first | exact (Kd.C_below HR0.out HB.out) | (with_reducible refine Kd.C_alloc ?_ _) | (with_reducible refine Kd.C_drewN ?_ _) | (with_reducible refine Kd.C_drew ?_))); (case aB => exact bz); (case aF => exact (fun _ _ => trivial)); (case aO => exact (rz HO390)); (case aS => exact sz); (case aL => have := LMc4.out; omega); intro v392 w9 ho hb hg hat; rw [← Ny391.out] at ho; replace HB := aS (hb); have HO393 := aS (ho); clear HO390; clear ho hb hg hat) | ((with_reducible refine gate_builtin (b := .append) (xs := #[.tmp 16, .tmp 17]) rfl ?_); at_builtin; refine Kd.R_append_rows k53 (w0 := w) w.heap.size rfl (.tmp 16) (.tmp 17) 22 53 (.agg #[(.int .i64 0), (.int .i64 0), (.int .i64 0), (.int .i64 0)]) 32 rfl Tryz.underlying22 info53 rfl (by decide) (by omega) v392 y391 l1 _ _ _ (fun _ => True) (fun _ => False) rfl rfl ?aO ?aR (fun _ _ h => h) (fun _ h => h.elim) ?aF ?aB ?aS ?aL ?_; (case aR => repeat (first | exact (Kd.C_below HR1.out HB.out) | (with_reducible refine Kd.C_alloc ?_ _) | (with_reducible refine Kd.C_drewN ?_ _) | (with_reducible refine Kd.C_drew ?_))); (case aB => exact bz); (case aF => exact (fun _ _ => trivial)); (case aO => exact (rz HO393)); (case aS => exact sz); (case aL => have := LMc5.out; omega); intro v395 w10 ho hb hg hat; rw [← Ny394.out] at ho; replace HB := aS (hb); have HO396 := aS (ho); clear HO393; clear ho hb hg hat; obtain ⟨Ao11, co11, eo11⟩ := Kd.R_slice HO396.out; subst eo11) | ((with_reducible refine gate_callee (f := 98) rfl ?_); refine zC 20 Tryz.func98 #[.slice Ao11 y394.length co11] ?_; (with_reducible refine (dioramaref02_ends.calls k _ _ y394 t397 _ ?side1 ?side2 A6.out).mono ?_); (case side1 => exact cr HO396); (case side2 => exact (Kd.R_reads' HO396.out).2.1); rintro e w12 ⟨v398, rfl, ho0, hb⟩; refine ⟨_, rfl, ?_⟩; replace HO396 := aS (Kd.R_below (rz HO396) hb); have HO399 := aS (Kd.R_lower ho0 sz); replace HB := bp hb; clear hb ho0))
   go_loopg [9, 10] k (fun kq v9 v10 w' => ∃ (x9_1 : List (S53)) (x10_1 : Int), v10 = .int .i64 x10_1 ∧ Aside0 (dioramaref02_joined.l0 kq l0 l1 a2 t397 x9_1 x10_1 = some r) ∧ Aside0 (kq ≤ k) ∧ Aside0 (Kd.R k24 24 w' w.heap.size (fun _ => True) v398 t397) ∧ Aside0 (Kd.R k53 53 w' w.heap.size (fun _ => True) v9 x9_1) ∧ Aside0 (Below w.heap.size w w'))
   case atStart => exact ⟨(([] : List (S53))), (0), jz, H', ⟨Nat.le_refl _⟩, ⟨rz HO399⟩, ⟨by first | exact Kd.R_nil _ _ _ _ _ | exact Kd.N_nil _ _ _ _ _ | exact Kd.V_nil _ _ _ _ _ | exact Kd.Q_nil _ _ _ _ _ | exact Kd.S_nil _ _ _ _ _⟩, ⟨bz⟩⟩
   case round =>
    clear H'
    try clear c1
    try clear p2
    try clear c4
    try clear c5
    try clear c9
    obtain ⟨x9_1, x10_1, rfl, HA, HK1, HO_8, HO_9, HB⟩ := hrel
    cases gk with
    | zero => exact absurd HA.out (by simp [dioramaref02_joined.l0])
    | succ k1 =>
     have H := HA.out; clear HA; simp only [dioramaref02_joined.l0] at H
     by_cases c13 : (wrap64 (x10_1 + 1)) < (t397.length : Int)
     ·rw [if_pos c13] at H; have c13b0 : decide ((wrap64 (x10_1 + 1)) < (t397.length : Int)) = true := decide_eq_true c13; clear c13
      by_cases c14 : 0 ≤ x10_1
      ·rw [if_pos c14] at H; have c14b0 : decide (0 ≤ x10_1) = true := decide_eq_true c14; clear c14
       by_cases c15 : x10_1 < (t397.length : Int)
       ·rw [if_pos c15] at H; have c15b0 : decide (x10_1 < (t397.length : Int)) = true := decide_eq_true c15; clear c15; obtain ⟨t401, A16, H⟩ := ob H; obtain ⟨t403, A17, H⟩ := ob H; have HC18 := aS H; clear H; obtain ⟨Ao19, co19, eo19⟩ := Kd.R_slice HO_8.out; subst eo19
        try go_wp2
        replace HO_8 := aS (Kd.R_drew HO_8.out); replace HO_9 := aS (Kd.R_drew HO_9.out); replace HB := aS (below_drew1 HB.out); have p400 : 0 ≤ (x10_1 : Int) := od; have q400 : x10_1 < (t397.length : Int) := od; obtain ⟨ad400, e400, hx400_0, hx400_1⟩ := at_T24 (Kd.R_reads' HO_8.out).2.2 x10_1 p400 q400
        cases e400
        replace p400 := eq_true p400; replace q400 := eq_true q400; have p402 : 0 ≤ (x10_1 : Int) := od; have q402 : x10_1 < (t397.length : Int) := od; obtain ⟨ad402, e402, hx402_0, hx402_1⟩ := at_T24 (Kd.R_reads' HO_8.out).2.2 x10_1 p402 q402; obtain rfl : ad400 = ad402 := (by injection e402); replace p402 := eq_true p402; replace q402 := eq_true q402; refine start_ (n := 14) (S := fun w' => w'.cell? (ad400.add ((x10_1).toNat * 2)) = some (.int .i64 ((rd_T24 t397 x10_1).f0)) ∧ w'.cell? ⟨(ad400.add ((x10_1).toNat * 2)).block, (ad400.add ((x10_1).toNat * 2)).off + 1, none⟩ = some (.int .i64 ((rd_T24 t397 x10_1).f1)) ∧ w'.cell? (ad400.add ((x10_1).toNat * 2)) = some (.int .i64 ((rd_T24 t397 x10_1).f0)) ∧ w'.cell? ⟨(ad400.add ((x10_1).toNat * 2)).block, (ad400.add ((x10_1).toNat * 2)).off + 1, none⟩ = some (.int .i64 ((rd_T24 t397 x10_1).f1))) (ds := []) (bs 14 0) (by kernel_rfl) rfl rfl ⟨hx400_0, hx400_1, hx402_0, hx402_1⟩ (fun hHeld => ?_)
        generalize wr.drew = w20 at HO_8 HO_9 HB hx400_0 hx400_1 hx402_0 hx402_1 hHeld ⊢; refine zP 0 28 14 1 ?_; refine zP 1 29 14 3 ?_; refine zP 2 30 14 7 ?_; refine zP 3 31 14 15 ?_; refine zP 6 34 14 79 ?_; refine zP 7 35 14 207 ?_; refine zP 8 36 14 463 ?_; refine zP 9 37 14 975 ?_; refine zT 4 32 14 991 hHeld ?_; refine zT 10 38 14 2015 hHeld ?_; refine zN 5 (some 33) 14 2047 (fun K hK => ?_); refine zG Tryz.func51 #[.slice A0 l0.length c0, .agg #[.int .i64 ((rd_T24 t397 x10_1).f0), .int .i64 ((rd_T24 t397 x10_1).f1)]] ?_
        with_reducible refine (dioramaref02_inside.calls k1 _ _ l0 ((rd_T24 t397 x10_1).f0) ((rd_T24 t397 x10_1).f1) t401 _ ?side1 ?side2 A16.out).mono ?_
        (case side1 => exact cz HR0)
        (case side2 => exact HC0.out)
        rintro e w21 ⟨rfl, hb⟩; have HS0_ := (hb.cell (World.block_lt_of_cell? _ _ (hHeld.1))).trans (hHeld.1); have HS1_ := (hb.cell (World.block_lt_of_cell? _ _ (hHeld.2.1))).trans (hHeld.2.1); have HS2_ := (hb.cell (World.block_lt_of_cell? _ _ (hHeld.2.2.1))).trans (hHeld.2.2.1); have HS3_ := (hb.cell (World.block_lt_of_cell? _ _ (hHeld.2.2.2))).trans (hHeld.2.2.2); refine ⟨_, rfl, ?_⟩; replace HO_8 := aS (Kd.R_below (rz HO_8) hb); replace HO_9 := aS (Kd.R_below (rz HO_9) hb); replace HB := bp hb; clear hb; refine hK.out _ _ ⟨HS0_, HS1_, HS2_, HS3_⟩ (fun hHeld => ?_); clear hK K; refine zM 33 ?_; refine zN 11 (some 39) 14 4095 (fun K hK => ?_); refine zG Tryz.func51 #[.slice A1 l1.length c1, .agg #[.int .i64 ((rd_T24 t397 x10_1).f0), .int .i64 ((rd_T24 t397 x10_1).f1)]] ?_
        with_reducible refine (dioramaref02_inside.calls k1 _ _ l1 ((rd_T24 t397 x10_1).f0) ((rd_T24 t397 x10_1).f1) t403 _ ?side1 ?side2 A17.out).mono ?_
        (case side1 => exact cz HR1)
        (case side2 => exact HC1.out)
        rintro e w22 ⟨rfl, hb⟩; have HS0_ := (hb.cell (World.block_lt_of_cell? _ _ (hHeld.1))).trans (hHeld.1); have HS1_ := (hb.cell (World.block_lt_of_cell? _ _ (hHeld.2.1))).trans (hHeld.2.1); have HS2_ := (hb.cell (World.block_lt_of_cell? _ _ (hHeld.2.2.1))).trans (hHeld.2.2.1); have HS3_ := (hb.cell (World.block_lt_of_cell? _ _ (hHeld.2.2.2))).trans (hHeld.2.2.2); refine ⟨_, rfl, ?_⟩; replace HO_8 := aS (Kd.R_below (rz HO_8) hb); replace HO_9 := aS (Kd.R_below (rz HO_9) hb); replace HB := bp hb; clear hb; refine hK.out _ _ ⟨HS0_, HS1_, HS2_, HS3_⟩ (fun hHeld => ?_); clear hK K; refine zM 39 ?_; refine zP 12 11 14 8191 ?_; refine zP 13 12 14 16383 ?_; refine done_ (by kernel_rfl) ?_
        go_upto_region 8 with (fail)
        go_cut [72] (fun v72 wc => ∃ (kq : Nat) (x72_17 : Bool), v72 = .bool x72_17 ∧ Aside0 (dioramaref02_joined.j1 kq l0 l1 a2 t397 x9_1 x10_1 x72_17 = some r) ∧ Aside0 (kq ≤ k1) ∧ Aside0 (Kd.R k24 24 wc w.heap.size (fun _ => True) (.slice (some ad400) t397.length co19) t397) ∧ Aside0 (Kd.R k53 53 wc w.heap.size (fun _ => True) u9 x9_1) ∧ Aside0 (Below w.heap.size w wc))
        case first =>
         have H := HC18.out; clear HC18
         by_cases c23 : a2 = 0
         ·rw [if_pos c23] at H; have c23b0 : (a2 == 0) = true := beq_iff_eq.mpr c23; have c23b1 : (a2 != 0) = false := bne_eq_false_iff_eq.mpr c23; clear c23
          (first | rw [c23b0] | (simp only [i64_w, i32_w]; rw [c23b0]) | skip)
          by_cases c24 : t401 = true
          ·subst c24; rw [if_pos rfl] at H
           by_cases c25 : a2 = 1
           ·rw [if_pos c25] at H; have c25b0 : (a2 == 1) = true := beq_iff_eq.mpr c25; have c25b1 : (a2 != 1) = false := bne_eq_false_iff_eq.mpr c25; clear c25
            by_cases c26 : t403 = true
            ·subst c26; rw [if_pos rfl] at H
             by_cases c27 : a2 = 2
             ·rw [if_pos c27] at H; have c27b0 : (a2 == 2) = true := beq_iff_eq.mpr c27; have c27b1 : (a2 != 2) = false := bne_eq_false_iff_eq.mpr c27; clear c27; have H' := aS H; clear H
              go_wp2
              go_meet
              case rel => exact ⟨_, (!(!true)), jz, H', ⟨by have := HK1.out; first | omega | exact Nat.le_refl _⟩, ⟨rz HO_8⟩, ⟨rz HO_9⟩, ⟨bz⟩⟩
             rw [if_neg c27] at H; have c27b0 : (a2 == 2) = false := beq_eq_false_iff_ne.mpr c27; have c27b1 : (a2 != 2) = true := bne_iff_ne.mpr c27; have H' := aS H; clear H
             go_wp2
             go_meet
             case rel => exact ⟨_, (false), jz, H', ⟨by have := HK1.out; first | omega | exact Nat.le_refl _⟩, ⟨rz HO_8⟩, ⟨rz HO_9⟩, ⟨bz⟩⟩
            obtain rfl := bf c26; rw [if_neg (show ¬ (false = true) by decide)] at H; have H' := aS H; clear H
            go_wp2
            go_meet
            case rel => exact ⟨_, (true), jz, H', ⟨by have := HK1.out; first | omega | exact Nat.le_refl _⟩, ⟨rz HO_8⟩, ⟨rz HO_9⟩, ⟨bz⟩⟩
           rw [if_neg c25] at H; have c25b0 : (a2 == 1) = false := beq_eq_false_iff_ne.mpr c25; have c25b1 : (a2 != 1) = true := bne_iff_ne.mpr c25
           by_cases c28 : a2 = 2
           ·rw [if_pos c28] at H; have c28b0 : (a2 == 2) = true := beq_iff_eq.mpr c28; have c28b1 : (a2 != 2) = false := bne_eq_false_iff_eq.mpr c28; clear c28; have H' := aS H; clear H
            go_wp2
            go_meet
            case rel => exact ⟨_, (!(!t403)), jz, H', ⟨by have := HK1.out; first | omega | exact Nat.le_refl _⟩, ⟨rz HO_8⟩, ⟨rz HO_9⟩, ⟨bz⟩⟩
           rw [if_neg c28] at H; have c28b0 : (a2 == 2) = false := beq_eq_false_iff_ne.mpr c28; have c28b1 : (a2 != 2) = true := bne_iff_ne.mpr c28; have H' := aS H; clear H
           go_wp2
           go_meet
           case rel => exact ⟨_, (false), jz, H', ⟨by have := HK1.out; first | omega | exact Nat.le_refl _⟩, ⟨rz HO_8⟩, ⟨rz HO_9⟩, ⟨bz⟩⟩
          obtain rfl := bf c24; rw [if_neg (show ¬ (false = true) by decide)] at H
          by_cases c29 : t403 = true
          ·subst c29; rw [if_pos rfl] at H
           by_cases c30 : a2 = 1
           ·rw [if_pos c30] at H; have c30b0 : (a2 == 1) = true := beq_iff_eq.mpr c30; have c30b1 : (a2 != 1) = false := bne_eq_false_iff_eq.mpr c30; clear c30; have H' := aS H; clear H
            go_wp2
            go_meet
            case rel => exact ⟨_, (true), jz, H', ⟨by have := HK1.out; first | omega | exact Nat.le_refl _⟩, ⟨rz HO_8⟩, ⟨rz HO_9⟩, ⟨bz⟩⟩
           rw [if_neg c30] at H; have c30b0 : (a2 == 1) = false := beq_eq_false_iff_ne.mpr c30; have c30b1 : (a2 != 1) = true := bne_iff_ne.mpr c30
           by_cases c31 : a2 = 2
           ·rw [if_pos c31] at H; have c31b0 : (a2 == 2) = true := beq_iff_eq.mpr c31; have c31b1 : (a2 != 2) = false := bne_eq_false_iff_eq.mpr c31; clear c31; have H' := aS H; clear H
            go_wp2
            go_meet
            case rel => exact ⟨_, (!false), jz, H', ⟨by have := HK1.out; first | omega | exact Nat.le_refl _⟩, ⟨rz HO_8⟩, ⟨rz HO_9⟩, ⟨bz⟩⟩
           rw [if_neg c31] at H; have c31b0 : (a2 == 2) = false := beq_eq_false_iff_ne.mpr c31; have c31b1 : (a2 != 2) = true := bne_iff_ne.mpr c31; have H' := aS H; clear H
           go_wp2
           go_meet
           case rel => exact ⟨_, (false), jz, H', ⟨by have := HK1.out; first | omega | exact Nat.le_refl _⟩, ⟨rz HO_8⟩, ⟨rz HO_9⟩, ⟨bz⟩⟩
          obtain rfl := bf c29; rw [if_neg (show ¬ (false = true) by decide)] at H; have H' := aS H; clear H
          go_wp2
          go_meet
          case rel => exact ⟨_, (true), jz, H', ⟨by have := HK1.out; first | omega | exact Nat.le_refl _⟩, ⟨rz HO_8⟩, ⟨rz HO_9⟩, ⟨bz⟩⟩
         rw [if_neg c23] at H; have c23b0 : (a2 == 0) = false := beq_eq_false_iff_ne.mpr c23; have c23b1 : (a2 != 0) = true := bne_iff_ne.mpr c23
         (first | rw [c23b0] | (simp only [i64_w, i32_w]; rw [c23b0]) | skip)
         by_cases c32 : a2 = 1
         ·rw [if_pos c32] at H; have c32b0 : (a2 == 1) = true := beq_iff_eq.mpr c32; have c32b1 : (a2 != 1) = false := bne_eq_false_iff_eq.mpr c32; clear c32
          by_cases c33 : t401 = true
          ·subst c33; rw [if_pos rfl] at H
           by_cases c34 : t403 = true
           ·subst c34; rw [if_pos rfl] at H
            by_cases c35 : a2 = 2
            ·rw [if_pos c35] at H; have c35b0 : (a2 == 2) = true := beq_iff_eq.mpr c35; have c35b1 : (a2 != 2) = false := bne_eq_false_iff_eq.mpr c35; clear c35; have H' := aS H; clear H
             go_wp2
             go_meet
             case rel => exact ⟨_, (!(!true)), jz, H', ⟨by have := HK1.out; first | omega | exact Nat.le_refl _⟩, ⟨rz HO_8⟩, ⟨rz HO_9⟩, ⟨bz⟩⟩
            rw [if_neg c35] at H; have c35b0 : (a2 == 2) = false := beq_eq_false_iff_ne.mpr c35; have c35b1 : (a2 != 2) = true := bne_iff_ne.mpr c35; have H' := aS H; clear H
            go_wp2
            go_meet
            case rel => exact ⟨_, (false), jz, H', ⟨by have := HK1.out; first | omega | exact Nat.le_refl _⟩, ⟨rz HO_8⟩, ⟨rz HO_9⟩, ⟨bz⟩⟩
           obtain rfl := bf c34; rw [if_neg (show ¬ (false = true) by decide)] at H; have H' := aS H; clear H
           go_wp2
           go_meet
           case rel => exact ⟨_, (true), jz, H', ⟨by have := HK1.out; first | omega | exact Nat.le_refl _⟩, ⟨rz HO_8⟩, ⟨rz HO_9⟩, ⟨bz⟩⟩
          obtain rfl := bf c33; rw [if_neg (show ¬ (false = true) by decide)] at H; have H' := aS H; clear H
          go_wp2
          go_meet
          case rel => exact ⟨_, (true), jz, H', ⟨by have := HK1.out; first | omega | exact Nat.le_refl _⟩, ⟨rz HO_8⟩, ⟨rz HO_9⟩, ⟨bz⟩⟩
         rw [if_neg c32] at H; have c32b0 : (a2 == 1) = false := beq_eq_false_iff_ne.mpr c32; have c32b1 : (a2 != 1) = true := bne_iff_ne.mpr c32
         by_cases c36 : a2 = 2
         ·rw [if_pos c36] at H; have c36b0 : (a2 == 2) = true := beq_iff_eq.mpr c36; have c36b1 : (a2 != 2) = false := bne_eq_false_iff_eq.mpr c36; clear c36
          by_cases c37 : t401 = true
          ·subst c37; rw [if_pos rfl] at H; have H' := aS H; clear H
           go_wp2
           go_meet
           case rel => exact ⟨_, (!(!t403)), jz, H', ⟨by have := HK1.out; first | omega | exact Nat.le_refl _⟩, ⟨rz HO_8⟩, ⟨rz HO_9⟩, ⟨bz⟩⟩
          obtain rfl := bf c37; rw [if_neg (show ¬ (false = true) by decide)] at H; have H' := aS H; clear H
          go_wp2
          go_meet
          case rel => exact ⟨_, (!false), jz, H', ⟨by have := HK1.out; first | omega | exact Nat.le_refl _⟩, ⟨rz HO_8⟩, ⟨rz HO_9⟩, ⟨bz⟩⟩
         rw [if_neg c36] at H; have c36b0 : (a2 == 2) = false := beq_eq_false_iff_ne.mpr c36; have c36b1 : (a2 != 2) = true := bne_iff_ne.mpr c36; have H' := aS H; clear H
         go_wp2
         go_meet
         case rel => exact ⟨_, (false), jz, H', ⟨by have := HK1.out; first | omega | exact Nat.le_refl _⟩, ⟨rz HO_8⟩, ⟨rz HO_9⟩, ⟨bz⟩⟩
        case rest =>
         clear HC18
         try clear c1
         try clear c2
         try clear p2
         try clear c3
         try clear c4
         try clear p4
         try clear q4
         try clear hx4
         try clear c5
         try clear p6
         try clear c9
         try clear c13
         try clear c13b0
         try clear c14
         try clear c14b0
         try clear c15
         try clear c15b0
         try clear c23
         try clear c23b0
         try clear c23b1
         try clear c24
         try clear c25
         try clear c25b0
         try clear c25b1
         try clear c26
         try clear c27
         try clear c27b0
         try clear c27b1
         try clear c28
         try clear c28b0
         try clear c28b1
         try clear c29
         try clear c30
         try clear c30b0
         try clear c30b1
         try clear c31
         try clear c31b0
         try clear c31b1
         try clear c32
         try clear c32b0
         try clear c32b1
         try clear c33
         try clear c34
         try clear c35
         try clear c35b0
         try clear c35b1
         try clear c36
         try clear c36b0
         try clear c36b1
         try clear c37
         try clear hx400_0
         try clear hx400_1
         try clear hx402_0
         try clear hx402_1
         try clear p2
         try clear p400
         try clear p402
         try clear q400
         try clear q402
         obtain ⟨kq, x72_17, rfl, HA, HJ17, HO_8, HO_9, HB⟩ := hcut
         cases kq with
         | zero => exact absurd HA.out (by simp [dioramaref02_joined.j1])
         | succ kj17 =>
          have H := HA.out; clear HA; simp only [dioramaref02_joined.j1] at H
          by_cases c38 : x72_17 = true
          ·subst c38; rw [if_pos rfl] at H; have H' := aS H; clear H
           go_wp2
           go_roundg kj17
           case measure => have := HK1.out; have := HJ17.out; omega
           case rel => exact ⟨(x9_1), (wrap64 (x10_1 + 1)), jz, H', ⟨by have := HK1.out; have := HJ17.out; omega⟩, ⟨rz HO_8⟩, ⟨rz HO_9⟩, ⟨bz⟩⟩
          obtain rfl := bf c38; rw [if_neg (show ¬ (false = true) by decide)] at H
          by_cases c39 : (x9_1.length : Int) > 0
          ·rw [if_pos c39] at H; have c39b0 : decide (0 < (x9_1.length : Int)) = true := decide_eq_true c39; have c39b1 : decide (0 < x9_1.length) = true := decide_eq_true (by omega); clear c39; obtain ⟨ji40, hji40⟩ : ∃ j_ : Int, (wrap64 ((x9_1.length : Int) - 1)) = j_ := ⟨_, rfl⟩; replace H : (if 0 ≤ (ji40) then (if (ji40) < (x9_1.length : Int) then (if 0 ≤ x10_1 then (if x10_1 < (t397.length : Int) then (if (((rd_T53 x9_1 (ji40)).f1.f0) == ((rd_T24 t397 x10_1).f0) && (((rd_T53 x9_1 (ji40)).f1.f1) == ((rd_T24 t397 x10_1).f1))) = true then (if 0 ≤ (wrap64 (x10_1 + 1)) then (if (wrap64 (x10_1 + 1)) < (t397.length : Int) then (dioramaref02_joined.l0 kj17 l0 l1 a2 t397 (x9_1.set ((ji40) : Int).toNat (⟨(⟨(rd_T53 x9_1 (ji40)).f0.f0, (rd_T53 x9_1 (ji40)).f0.f1⟩ : S24), (⟨(rd_T24 t397 (wrap64 (x10_1 + 1))).f0, (rd_T24 t397 (wrap64 (x10_1 + 1))).f1⟩ : S24)⟩ : S53)) (wrap64 (x10_1 + 1))) else (none)) else (none)) else (if 0 ≤ (wrap64 (x10_1 + 1)) then (if (wrap64 (x10_1 + 1)) < (t397.length : Int) then (if x9_1.length < 4398046511104 then (dioramaref02_joined.l0 kj17 l0 l1 a2 t397 (x9_1 ++ [(⟨(⟨(rd_T24 t397 x10_1).f0, (rd_T24 t397 x10_1).f1⟩ : S24), (⟨(rd_T24 t397 (wrap64 (x10_1 + 1))).f0, (rd_T24 t397 (wrap64 (x10_1 + 1))).f1⟩ : S24)⟩ : S53)]) (wrap64 (x10_1 + 1))) else (none)) else (none)) else (none))) else (none)) else (none)) else (none)) else (none)) = some r := by first | (rw [hji40] at H; exact H) | (simp only [hji40] at H ⊢; exact H)
           have hji40w : (IntKind.i64.wrap ((x9_1.length : Int) - 1)) = ji40 := (i64_w _).trans hji40
           by_cases c41 : 0 ≤ (ji40)
           ·rw [if_pos c41] at H; have c41b0 : decide (0 ≤ (ji40)) = true := decide_eq_true c41; clear c41
            by_cases c42 : (ji40) < (x9_1.length : Int)
            ·rw [if_pos c42] at H; have c42b0 : decide ((ji40) < (x9_1.length : Int)) = true := decide_eq_true c42; clear c42
             by_cases c43 : 0 ≤ x10_1
             ·rw [if_pos c43] at H; have c43b0 : decide (0 ≤ x10_1) = true := decide_eq_true c43; clear c43
              by_cases c44 : x10_1 < (t397.length : Int)
              ·rw [if_pos c44] at H; have c44b0 : decide (x10_1 < (t397.length : Int)) = true := decide_eq_true c44; clear c44
               by_cases c45 : (((rd_T53 x9_1 (ji40)).f1.f0) == ((rd_T24 t397 x10_1).f0) && (((rd_T53 x9_1 (ji40)).f1.f1) == ((rd_T24 t397 x10_1).f1))) = true
               ·rw [if_pos c45] at H; have c45b0 : (((rd_T53 x9_1 (ji40)).f1.f0) == ((rd_T24 t397 x10_1).f0) && (((rd_T53 x9_1 (ji40)).f1.f1) == ((rd_T24 t397 x10_1).f1))) = true := c45
                (try (have c45b1 : decide (((rd_T53 x9_1 (ji40)).f1.f0) = ((rd_T24 t397 x10_1).f0) && (((rd_T53 x9_1 (ji40)).f1.f1) == ((rd_T24 t397 x10_1).f1))) = true := by simpa using c45))
                (try (have c45b2 : (((rd_T53 x9_1 (ji40)).f1.f0) == ((rd_T24 t397 x10_1).f0) && (((rd_T53 x9_1 (ji40)).f1.f1) == ((rd_T24 t397 x10_1).f1))) = true := by simpa using c45))
                clear c45; obtain ⟨ji46, hji46⟩ : ∃ j_ : Int, (wrap64 (x10_1 + 1)) = j_ := ⟨_, rfl⟩; replace H : (if 0 ≤ (ji46) then (if (ji46) < (t397.length : Int) then (dioramaref02_joined.l0 kj17 l0 l1 a2 t397 (x9_1.set ((ji40) : Int).toNat (⟨(⟨(rd_T53 x9_1 (ji40)).f0.f0, (rd_T53 x9_1 (ji40)).f0.f1⟩ : S24), (⟨(rd_T24 t397 (ji46)).f0, (rd_T24 t397 (ji46)).f1⟩ : S24)⟩ : S53)) ji46) else (none)) else (none)) = some r := by first | (rw [hji46] at H; exact H) | (simp only [hji46] at H ⊢; exact H)
                (try rw [hji46] at c13b0)
                have hji46w : (IntKind.i64.wrap (x10_1 + 1)) = ji46 := (i64_w _).trans hji46
                by_cases c47 : 0 ≤ (ji46)
                ·rw [if_pos c47] at H; have c47b0 : decide (0 ≤ (ji46)) = true := decide_eq_true c47; clear c47
                 by_cases c48 : (ji46) < (t397.length : Int)
                 ·rw [if_pos c48] at H; have c48b0 : decide ((ji46) < (t397.length : Int)) = true := decide_eq_true c48; clear c48; obtain ⟨y407, hy407⟩ : ∃ y_ : List (S53), y_ = (x9_1.set ((ji40) : Int).toNat (⟨(⟨(rd_T53 x9_1 (ji40)).f0.f0, (rd_T53 x9_1 (ji40)).f0.f1⟩ : S24), (⟨(rd_T24 t397 (ji46)).f0, (rd_T24 t397 (ji46)).f1⟩ : S24)⟩ : S53)) := ⟨_, rfl⟩; replace H : (dioramaref02_joined.l0 kj17 l0 l1 a2 t397 y407 ji46) = some r := by first | (rw [hy407]; with_reducible exact H) | (have H2_ := (Option.bind_some _ _).symm.trans H; rw [hy407]; with_reducible exact H2_) | (have H2_ := (Option.bind_some _ _).symm.trans H; with_reducible exact H2_) | with_reducible exact H | (rw [hy407]; exact H) | exact H
                  have Ny407 := aS hy407; clear hy407; have H' := aS H; clear H; obtain ⟨Ao50, co50, eo50⟩ := Kd.R_slice HO_9.out; subst eo50
                  try go_wp2
                  replace HO_8 := aS (Kd.R_drew HO_8.out); replace HO_9 := aS (Kd.R_drew HO_9.out); replace HB := aS (below_drew1 HB.out); have p404 : 0 ≤ ((ji40) : Int) := od; have q404 : (ji40) < (x9_1.length : Int) := od; obtain ⟨ad404, e404, hx404_0, hx404_1, hx404_2, hx404_3⟩ := at_T53 (Kd.R_reads' HO_9.out).2.2 (ji40) p404 q404
                  cases e404
                  replace p404 := eq_true p404; replace q404 := eq_true q404; have p405 : 0 ≤ (x10_1 : Int) := od; have q405 : x10_1 < (t397.length : Int) := od; obtain ⟨ad405, e405, hx405_0, hx405_1⟩ := at_T24 (Kd.R_reads' HO_8.out).2.2 x10_1 p405 q405; obtain rfl : ad400 = ad405 := (by injection e405); replace p405 := eq_true p405; replace q405 := eq_true q405; refine start_ (n := 15) (S := fun w' => w'.cell? (ad404.add (((ji40)).toNat * 4)) = some (.int .i64 ((rd_T53 x9_1 (ji40)).f0.f0)) ∧ w'.cell? ⟨(ad404.add (((ji40)).toNat * 4)).block, (ad404.add (((ji40)).toNat * 4)).off + 1, none⟩ = some (.int .i64 ((rd_T53 x9_1 (ji40)).f0.f1)) ∧ w'.cell? ⟨(ad404.add (((ji40)).toNat * 4)).block, (ad404.add (((ji40)).toNat * 4)).off + 2, none⟩ = some (.int .i64 ((rd_T53 x9_1 (ji40)).f1.f0)) ∧ w'.cell? ⟨(ad404.add (((ji40)).toNat * 4)).block, (ad404.add (((ji40)).toNat * 4)).off + 3, none⟩ = some (.int .i64 ((rd_T53 x9_1 (ji40)).f1.f1)) ∧ w'.cell? (ad400.add ((x10_1).toNat * 2)) = some (.int .i64 ((rd_T24 t397 x10_1).f0)) ∧ w'.cell? ⟨(ad400.add ((x10_1).toNat * 2)).block, (ad400.add ((x10_1).toNat * 2)).off + 1, none⟩ = some (.int .i64 ((rd_T24 t397 x10_1).f1))) (ds := []) (bs 15 0) (by kernel_rfl) rfl rfl ⟨hx404_0, hx404_1, hx404_2, hx404_3, hx405_0, hx405_1⟩ (fun hHeld => ?_)
                  generalize wc.drew = w51 at HO_8 HO_9 HB hx404_0 hx404_1 hx404_2 hx404_3 hx405_0 hx405_1 hHeld ⊢; refine zP 0 75 15 1 ?_; refine zP 1 76 15 3 ?_; refine zP 2 77 15 7 ?_; refine zP 3 78 15 15 ?_; refine zP 4 79 15 31 ?_; refine zP 5 80 15 63 ?_; refine zP 6 81 15 127 ?_; refine zP 7 82 15 255 ?_; refine zP 9 84 15 767 ?_; refine zP 10 85 15 1791 ?_; refine zP 11 86 15 3839 ?_; refine zT 8 83 15 4095 hHeld ?_; refine zT 12 87 15 8191 hHeld ?_; refine zP 13 88 15 16383 ?_; refine zP 14 89 15 32767 ?_; refine done_ (by kernel_rfl) ?_; have p406 : 0 ≤ ((ji46) : Int) := od; have q406 : (ji46) < (t397.length : Int) := od; obtain ⟨ad406, e406, hx406_0, hx406_1⟩ := at_T24 (Kd.R_reads' HO_8.out).2.2 (ji46) p406 q406; obtain rfl : ad400 = ad406 := (by injection e406); replace p406 := eq_true p406; replace q406 := eq_true q406; have p49 : 0 ≤ ((ji40) : Int) := od; have q49 : ((ji40) : Int) < ((x9_1.length : Int) : Int) := od; obtain ⟨go49, co49, eo49, gb49, gl49, cl49, HG49⟩ := Kd.R_form HO_9.out (by omega)
                  (first | cases eo49 | (injection eo49 with ea_ en_ ec_; (first | subst ea_ | (injection ea_ with ea_; subst ea_)); subst ec_; clear en_))
                  have GB49 := aS gb49; have GG49 := aS HG49; clear gb49 gl49 HG49
                  (first | simp only [add_plain] at hx404_0 | skip)
                  (first | simp only [add_plain] at hx404_1 | skip)
                  (first | simp only [add_plain] at hx404_2 | skip)
                  (first | simp only [add_plain] at hx404_3 | skip)
                  obtain ⟨ce49, hcl49, hM49, hcc49, hfr49⟩ := Kd.R_elem HO_9.out z53 ((ji40) : Int) p49 q49; obtain rfl := k53_openM hM49; have hx49_0 : w51.cell? ⟨go49, ((ji40) : Int).toNat * 4, none⟩ = some (.int .i64 ((rd_T53 x9_1 (ji40)).f0.f0)) := hcc49 0 _ rfl; have hx49_1 : w51.cell? ⟨go49, ((ji40) : Int).toNat * 4 + 1, none⟩ = some (.int .i64 ((rd_T53 x9_1 (ji40)).f0.f1)) := hcc49 1 _ rfl; have hx49_2 : w51.cell? ⟨go49, ((ji40) : Int).toNat * 4 + 2, none⟩ = some (.int .i64 ((rd_T53 x9_1 (ji40)).f1.f0)) := hcc49 2 _ rfl; have hx49_3 : w51.cell? ⟨go49, ((ji40) : Int).toNat * 4 + 3, none⟩ = some (.int .i64 ((rd_T53 x9_1 (ji40)).f1.f1)) := hcc49 3 _ rfl; have hf49_0 : w51.frozen? ⟨go49, ((ji40) : Int).toNat * 4, none⟩ = false := hfr49 0; have hf49_1 : w51.frozen? ⟨go49, ((ji40) : Int).toNat * 4 + 1, none⟩ = false := hfr49 1; have hf49_2 : w51.frozen? ⟨go49, ((ji40) : Int).toNat * 4 + 2, none⟩ = false := hfr49 2; have hf49_3 : w51.frozen? ⟨go49, ((ji40) : Int).toNat * 4 + 3, none⟩ = false := hfr49 3; clear hcl49 hcc49 hfr49 hM49; replace p49 := eq_true p49; replace q49 := eq_true q49; have HX52 := aS (show Kd.R k53 53 w51 w.heap.size (fun _ => True) (.slice (some ⟨go49, 0, none⟩) x9_1.length co50) x9_1 from (rz HO_9)); obtain ⟨ce52, hcl52, hM52, hcc52, hfr52⟩ := Kd.R_elem HX52.out z53 ((ji40) : Int) (od) (by have h_ : ((ji40) : Int) < ((x9_1.length : Int) : Int) := od; first | exact h_ | (have e_ := (Kd.R_reads' HO_9.out).1; omega) | simpa using h_); obtain rfl := k53_openM hM52; have HP52 := Kd.R_seg HX52.out ((ji40) : Int) (od) (by have h_ : ((ji40) : Int) < ((x9_1.length : Int) : Int) := od; first | exact h_ | (have e_ := (Kd.R_reads' HO_9.out).1; omega) | simpa using h_) (seg := [.int .i64 ((rd_T24 t397 (ji46)).f0), .int .i64 ((rd_T24 t397 (ji46)).f1)]) (j := 2) hcl52 hcc52 (show 4 ≤ 4 from by decide) (x' := (⟨(⟨(rd_T53 x9_1 (ji40)).f0.f0, (rd_T53 x9_1 (ji40)).f0.f1⟩ : S24), (⟨(rd_T24 t397 (ji46)).f0, (rd_T24 t397 (ji46)).f1⟩ : S24)⟩ : S53)) (k53_mkM _ _ _ (⟨(⟨(rd_T53 x9_1 (ji40)).f0.f0, (rd_T53 x9_1 (ji40)).f0.f1⟩ : S24), (⟨(rd_T24 t397 (ji46)).f0, (rd_T24 t397 (ji46)).f1⟩ : S24)⟩ : S53) ) (fun _ hk => hk); have hx52_2 := hcc52 2 _ rfl
                  (try simp only [show (k53).sz = 4 from rfl, Nat.mul_one, Nat.add_zero] at hx52_2)
                  have hf52_2 := hfr52 2
                  (try simp only [show (k53).sz = 4 from rfl, Nat.mul_one, Nat.add_zero] at hf52_2)
                  have hx52_3 := hcc52 3 _ rfl
                  (try simp only [show (k53).sz = 4 from rfl, Nat.mul_one, Nat.add_zero] at hx52_3)
                  have hf52_3 := hfr52 3
                  (try simp only [show (k53).sz = 4 from rfl, Nat.mul_one, Nat.add_zero] at hf52_3)
                  clear hcl52 hcc52 hfr52 hM52
                  try go_wp2_with (first | ((with_reducible refine gate_store (t := 24) (p := 99) rfl ?_); refine store_event (t := 24) (p := 99) (v := ?vo_w53) (w1 := ((w51.setCell ⟨go49, ((ji40) : Int).toNat * 4 + 2, none⟩ (.int .i64 ((rd_T24 t397 (ji46)).f0))).setCell ⟨go49, ((ji40) : Int).toNat * 4 + 3, none⟩ (.int .i64 ((rd_T24 t397 (ji46)).f1)))) ?hg ?ho ?hn ?hr ?_; (case ho => rfl); (case hg => rfl); (case hn => rfl); (case hr => first | (go_simp; done) | (go_simp; rfl)); intro w53 hw; have hg : w51.grownBy w53 (some go49) := (by rw [hw]; exact HP52.2); have hp_ : Kd.R k53 53 w53 w.heap.size (fun _ => True) (.slice (some ⟨go49, 0, none⟩) x9_1.length co50) y407 := (by rw [hw, Ny407.out]; exact HP52.1); clear HP52; replace HO_8 := aS (Kd.R_over' (v := (.slice (some ⟨go49, 0, none⟩) x9_1.length co50)) (rz HO_8) (Kd.R_typed HO_9.out) (by decide) hg); replace HO_9 := aS (hp_); replace HB := aS ((by rw [hw]; exact below_set (below_set (HB.out) GB49.out) GB49.out : Below w.heap.size w w53)); clear hg hw hp_))
                  go_roundg kj17
                  case measure => have := HK1.out; have := HJ17.out; omega
                  case rel => exact ⟨(y407), (ji46), (by first | rfl | (simp; done) | (simp only [← hji46] <;> (first | rfl | simp)) | (simp [*]; done)), H', ⟨by have := HK1.out; have := HJ17.out; omega⟩, ⟨rz HO_8⟩, ⟨rz HO_9⟩, ⟨bz⟩⟩
                 rw [if_neg c48] at H
                 exact absurd H (by simp)
                rw [if_neg c47] at H
                exact absurd H (by simp)
               rw [if_neg c45] at H; have c45b0 : (((rd_T53 x9_1 (ji40)).f1.f0) == ((rd_T24 t397 x10_1).f0) && (((rd_T53 x9_1 (ji40)).f1.f1) == ((rd_T24 t397 x10_1).f1))) = false := by simpa using c45
               (try (have c45b1 : decide (((rd_T53 x9_1 (ji40)).f1.f0) = ((rd_T24 t397 x10_1).f0) && (((rd_T53 x9_1 (ji40)).f1.f1) == ((rd_T24 t397 x10_1).f1))) = false := by simpa using c45))
               (try (have c45b2 : (((rd_T53 x9_1 (ji40)).f1.f0) == ((rd_T24 t397 x10_1).f0) && (((rd_T53 x9_1 (ji40)).f1.f1) == ((rd_T24 t397 x10_1).f1))) = false := by simpa using c45))
               (try (have c45b3 : ¬ (((rd_T53 x9_1 (ji40)).f1.f0) = ((rd_T24 t397 x10_1).f0) && (((rd_T53 x9_1 (ji40)).f1.f1) == ((rd_T24 t397 x10_1).f1))) := by simpa using c45))
               clear c45; obtain ⟨ji54, hji54⟩ : ∃ j_ : Int, (wrap64 (x10_1 + 1)) = j_ := ⟨_, rfl⟩; replace H : (if 0 ≤ (ji54) then (if (ji54) < (t397.length : Int) then (if x9_1.length < 4398046511104 then (dioramaref02_joined.l0 kj17 l0 l1 a2 t397 (x9_1 ++ [(⟨(⟨(rd_T24 t397 x10_1).f0, (rd_T24 t397 x10_1).f1⟩ : S24), (⟨(rd_T24 t397 (ji54)).f0, (rd_T24 t397 (ji54)).f1⟩ : S24)⟩ : S53)]) ji54) else (none)) else (none)) else (none)) = some r := by first | (rw [hji54] at H; exact H) | (simp only [hji54] at H ⊢; exact H)
               (try rw [hji54] at c13b0)
               have hji54w : (IntKind.i64.wrap (x10_1 + 1)) = ji54 := (i64_w _).trans hji54
               by_cases c55 : 0 ≤ (ji54)
               ·rw [if_pos c55] at H; have c55b0 : decide (0 ≤ (ji54)) = true := decide_eq_true c55; clear c55
                by_cases c56 : (ji54) < (t397.length : Int)
                ·rw [if_pos c56] at H; have c56b0 : decide ((ji54) < (t397.length : Int)) = true := decide_eq_true c56; clear c56
                 by_cases c57 : x9_1.length < 4398046511104
                 ·rw [if_pos c57] at H; have LMc57 := aS c57; clear c57; obtain ⟨y410, hy410⟩ : ∃ y_ : List (S53), y_ = (x9_1 ++ [(⟨(⟨(rd_T24 t397 x10_1).f0, (rd_T24 t397 x10_1).f1⟩ : S24), (⟨(rd_T24 t397 (ji54)).f0, (rd_T24 t397 (ji54)).f1⟩ : S24)⟩ : S53)]) := ⟨_, rfl⟩; replace H : (dioramaref02_joined.l0 kj17 l0 l1 a2 t397 y410 ji54) = some r := by first | (rw [hy410]; with_reducible exact H) | (have H2_ := (Option.bind_some _ _).symm.trans H; rw [hy410]; with_reducible exact H2_) | (have H2_ := (Option.bind_some _ _).symm.trans H; with_reducible exact H2_) | with_reducible exact H | (rw [hy410]; exact H) | exact H
                  have Ny410 := aS hy410; clear hy410; have H' := aS H; clear H; obtain ⟨Ao58, co58, eo58⟩ := Kd.R_slice HO_9.out; subst eo58
                  try go_wp2
                  replace HO_8 := aS (Kd.R_drew HO_8.out); replace HO_9 := aS (Kd.R_drew HO_9.out); replace HB := aS (below_drew1 HB.out); have p404 : 0 ≤ ((ji40) : Int) := od; have q404 : (ji40) < (x9_1.length : Int) := od; obtain ⟨ad404, e404, hx404_0, hx404_1, hx404_2, hx404_3⟩ := at_T53 (Kd.R_reads' HO_9.out).2.2 (ji40) p404 q404
                  cases e404
                  replace p404 := eq_true p404; replace q404 := eq_true q404; have p405 : 0 ≤ (x10_1 : Int) := od; have q405 : x10_1 < (t397.length : Int) := od; obtain ⟨ad405, e405, hx405_0, hx405_1⟩ := at_T24 (Kd.R_reads' HO_8.out).2.2 x10_1 p405 q405; obtain rfl : ad400 = ad405 := (by injection e405); replace p405 := eq_true p405; replace q405 := eq_true q405; refine start_ (n := 15) (S := fun w' => w'.cell? (ad404.add (((ji40)).toNat * 4)) = some (.int .i64 ((rd_T53 x9_1 (ji40)).f0.f0)) ∧ w'.cell? ⟨(ad404.add (((ji40)).toNat * 4)).block, (ad404.add (((ji40)).toNat * 4)).off + 1, none⟩ = some (.int .i64 ((rd_T53 x9_1 (ji40)).f0.f1)) ∧ w'.cell? ⟨(ad404.add (((ji40)).toNat * 4)).block, (ad404.add (((ji40)).toNat * 4)).off + 2, none⟩ = some (.int .i64 ((rd_T53 x9_1 (ji40)).f1.f0)) ∧ w'.cell? ⟨(ad404.add (((ji40)).toNat * 4)).block, (ad404.add (((ji40)).toNat * 4)).off + 3, none⟩ = some (.int .i64 ((rd_T53 x9_1 (ji40)).f1.f1)) ∧ w'.cell? (ad400.add ((x10_1).toNat * 2)) = some (.int .i64 ((rd_T24 t397 x10_1).f0)) ∧ w'.cell? ⟨(ad400.add ((x10_1).toNat * 2)).block, (ad400.add ((x10_1).toNat * 2)).off + 1, none⟩ = some (.int .i64 ((rd_T24 t397 x10_1).f1))) (ds := []) (bs 15 0) (by kernel_rfl) rfl rfl ⟨hx404_0, hx404_1, hx404_2, hx404_3, hx405_0, hx405_1⟩ (fun hHeld => ?_)
                  generalize wc.drew = w59 at HO_8 HO_9 HB hx404_0 hx404_1 hx404_2 hx404_3 hx405_0 hx405_1 hHeld ⊢; refine zP 0 75 15 1 ?_; refine zP 1 76 15 3 ?_; refine zP 2 77 15 7 ?_; refine zP 3 78 15 15 ?_; refine zP 4 79 15 31 ?_; refine zP 5 80 15 63 ?_; refine zP 6 81 15 127 ?_; refine zP 7 82 15 255 ?_; refine zP 9 84 15 767 ?_; refine zP 10 85 15 1791 ?_; refine zP 11 86 15 3839 ?_; refine zT 8 83 15 4095 hHeld ?_; refine zT 12 87 15 8191 hHeld ?_; refine zP 13 88 15 16383 ?_; refine zP 14 89 15 32767 ?_; refine done_ (by kernel_rfl) ?_
                  try go_wp2
                  replace HO_8 := aS (Kd.R_drew HO_8.out); replace HO_9 := aS (Kd.R_drew HO_9.out); replace HB := aS (below_drew1 HB.out); have p408 : 0 ≤ (x10_1 : Int) := od; have q408 : x10_1 < (t397.length : Int) := od; obtain ⟨ad408, e408, hx408_0, hx408_1⟩ := at_T24 (Kd.R_reads' HO_8.out).2.2 x10_1 p408 q408; obtain rfl : ad400 = ad408 := (by injection e408); replace p408 := eq_true p408; replace q408 := eq_true q408; have p409 : 0 ≤ ((ji54) : Int) := od; have q409 : (ji54) < (t397.length : Int) := od; obtain ⟨ad409, e409, hx409_0, hx409_1⟩ := at_T24 (Kd.R_reads' HO_8.out).2.2 (ji54) p409 q409; obtain rfl : ad400 = ad409 := (by injection e409); replace p409 := eq_true p409; replace q409 := eq_true q409; refine start_ (n := 14) (S := fun w' => w'.cell? (ad400.add ((x10_1).toNat * 2)) = some (.int .i64 ((rd_T24 t397 x10_1).f0)) ∧ w'.cell? ⟨(ad400.add ((x10_1).toNat * 2)).block, (ad400.add ((x10_1).toNat * 2)).off + 1, none⟩ = some (.int .i64 ((rd_T24 t397 x10_1).f1)) ∧ w'.cell? (ad400.add (((ji54)).toNat * 2)) = some (.int .i64 ((rd_T24 t397 (ji54)).f0)) ∧ w'.cell? ⟨(ad400.add (((ji54)).toNat * 2)).block, (ad400.add (((ji54)).toNat * 2)).off + 1, none⟩ = some (.int .i64 ((rd_T24 t397 (ji54)).f1))) (ds := [11, 12]) (bs 14 0) (by kernel_rfl) rfl rfl ⟨hx408_0, hx408_1, hx409_0, hx409_1⟩ (fun hHeld => ?_)
                  generalize w59.drew = w60 at HO_8 HO_9 HB hx408_0 hx408_1 hx409_0 hx409_1 hHeld ⊢; refine zP 0 100 14 1 ?_; refine zP 1 101 14 3 ?_; refine zP 2 102 14 7 ?_; refine zP 3 103 14 15 ?_; refine zP 5 105 14 47 ?_; refine zP 6 106 14 111 ?_; refine zP 7 107 14 239 ?_; refine zP 8 108 14 495 ?_; refine zT 4 104 14 511 hHeld ?_; refine zT 9 109 14 1023 hHeld ?_; refine zP 10 110 14 2047 ?_; refine zL 11 (some 111) 14 4095 (fun K hK => ?_); refine value_ (w1 := ?_) (v := ?_) (by rfl) rfl ?_ ?_
                  rotate_left 2
                  ·go_simp
                   constructor
                   ·rfl
                   rfl
                  refine hK.out _ _ ?_; clear hK K; refine zM 111 ?_; refine zL 12 (some 112) 14 8191 (fun K hK => ?_); refine Kd.R_append_step k53 (w0 := w) w.heap.size (by rfl) (.tmp 100) (.tmp 111) 22 53 (.agg #[(.int .i64 0), (.int .i64 0), (.int .i64 0), (.int .i64 0)]) 32 rfl Tryz.underlying22 info53 rfl (by decide) (by omega) (.slice (some ad404) x9_1.length co58) x9_1 (⟨(⟨(rd_T24 t397 x10_1).f0, (rd_T24 t397 x10_1).f1⟩ : S24), (⟨(rd_T24 t397 (ji54)).f0, (rd_T24 t397 (ji54)).f1⟩ : S24)⟩ : S53) [.int .i64 ((rd_T24 t397 x10_1).f0), .int .i64 ((rd_T24 t397 x10_1).f1), .int .i64 ((rd_T24 t397 (ji54)).f0), .int .i64 ((rd_T24 t397 (ji54)).f1)] (fun _ => True) (fun _ => False) rfl rfl ?aP (fun _ hk => hk.elim) ?aF ?aO ?aB ?aS ?aL ?_
                  (case aP => exact k53_mkM _ _ _ (⟨(⟨(rd_T24 t397 x10_1).f0, (rd_T24 t397 x10_1).f1⟩ : S24), (⟨(rd_T24 t397 (ji54)).f0, (rd_T24 t397 (ji54)).f1⟩ : S24)⟩ : S53))
                  (case aB => exact bz)
                  (case aF => exact (fun _ _ => trivial))
                  (case aO => exact (rz HO_9))
                  (case aS => exact sz)
                  (case aL => have := LMc57.out; omega)
                  intro v411 w61 ho hb hg hat; rw [← Ny410.out] at ho; replace HO_8 := aS (Kd.R_over' (rz HO_8) (Kd.R_typed (rz HO_9)) (by decide) hg); replace HB := aS (hb); have HO412 := aS (ho); clear HO_9; clear ho hb hg hat; refine hK.out _ _ ?_; clear hK K; refine zM 112 ?_; refine zP 13 9 14 16383 ?_; refine done_ (by kernel_rfl) ?_
                  try go_wp2
                  go_roundg kj17
                  case measure => have := HK1.out; have := HJ17.out; omega
                  case rel => exact ⟨(y410), (ji54), (by first | rfl | (simp; done) | (simp only [← hji54] <;> (first | rfl | simp)) | (simp [*]; done)), H', ⟨by have := HK1.out; have := HJ17.out; omega⟩, ⟨rz HO_8⟩, ⟨rz HO412⟩, ⟨bz⟩⟩
                 rw [if_neg c57] at H
                 exact absurd H (by simp)
                rw [if_neg c56] at H
                exact absurd H (by simp)
               rw [if_neg c55] at H
               exact absurd H (by simp)
              rw [if_neg c44] at H
              exact absurd H (by simp)
             rw [if_neg c43] at H
             exact absurd H (by simp)
            rw [if_neg c42] at H
            exact absurd H (by simp)
           rw [if_neg c41] at H
           exact absurd H (by simp)
          rw [if_neg c39] at H; have c39b0 : decide (0 < (x9_1.length : Int)) = false := decide_eq_false c39; have c39b1 : decide (0 < x9_1.length) = false := decide_eq_false (by omega); clear c39
          by_cases c62 : 0 ≤ x10_1
          ·rw [if_pos c62] at H; have c62b0 : decide (0 ≤ x10_1) = true := decide_eq_true c62; clear c62
           by_cases c63 : x10_1 < (t397.length : Int)
           ·rw [if_pos c63] at H; have c63b0 : decide (x10_1 < (t397.length : Int)) = true := decide_eq_true c63; clear c63; obtain ⟨ji64, hji64⟩ : ∃ j_ : Int, (wrap64 (x10_1 + 1)) = j_ := ⟨_, rfl⟩; replace H : (if 0 ≤ (ji64) then (if (ji64) < (t397.length : Int) then (if x9_1.length < 4398046511104 then (dioramaref02_joined.l0 kj17 l0 l1 a2 t397 (x9_1 ++ [(⟨(⟨(rd_T24 t397 x10_1).f0, (rd_T24 t397 x10_1).f1⟩ : S24), (⟨(rd_T24 t397 (ji64)).f0, (rd_T24 t397 (ji64)).f1⟩ : S24)⟩ : S53)]) ji64) else (none)) else (none)) else (none)) = some r := by first | (rw [hji64] at H; exact H) | (simp only [hji64] at H ⊢; exact H)
            (try rw [hji64] at c13b0)
            have hji64w : (IntKind.i64.wrap (x10_1 + 1)) = ji64 := (i64_w _).trans hji64
            by_cases c65 : 0 ≤ (ji64)
            ·rw [if_pos c65] at H; have c65b0 : decide (0 ≤ (ji64)) = true := decide_eq_true c65; clear c65
             by_cases c66 : (ji64) < (t397.length : Int)
             ·rw [if_pos c66] at H; have c66b0 : decide ((ji64) < (t397.length : Int)) = true := decide_eq_true c66; clear c66
              by_cases c67 : x9_1.length < 4398046511104
              ·rw [if_pos c67] at H; have LMc67 := aS c67; clear c67; obtain ⟨y415, hy415⟩ : ∃ y_ : List (S53), y_ = (x9_1 ++ [(⟨(⟨(rd_T24 t397 x10_1).f0, (rd_T24 t397 x10_1).f1⟩ : S24), (⟨(rd_T24 t397 (ji64)).f0, (rd_T24 t397 (ji64)).f1⟩ : S24)⟩ : S53)]) := ⟨_, rfl⟩; replace H : (dioramaref02_joined.l0 kj17 l0 l1 a2 t397 y415 ji64) = some r := by first | (rw [hy415]; with_reducible exact H) | (have H2_ := (Option.bind_some _ _).symm.trans H; rw [hy415]; with_reducible exact H2_) | (have H2_ := (Option.bind_some _ _).symm.trans H; with_reducible exact H2_) | with_reducible exact H | (rw [hy415]; exact H) | exact H
               have Ny415 := aS hy415; clear hy415; have H' := aS H; clear H; obtain ⟨Ao68, co68, eo68⟩ := Kd.R_slice HO_9.out; subst eo68
               try go_wp2
               replace HO_8 := aS (Kd.R_drew HO_8.out); replace HO_9 := aS (Kd.R_drew HO_9.out); replace HB := aS (below_drew1 HB.out); refine start_ (n := 15) (S := fun w' => True) (ds := []) (bs 15 0) (by kernel_rfl) rfl rfl trivial (fun hHeld => ?_); generalize wc.drew = w69 at HO_8 HO_9 HB hHeld ⊢; refine zP 0 75 15 1 ?_; refine zP 1 76 15 3 ?_; refine zP 2 77 15 7 ?_; refine zO 3 78 15 15 ?_; refine zO 4 79 15 31 ?_; refine zO 5 80 15 63 ?_; refine zO 6 81 15 127 ?_; refine zO 7 82 15 255 ?_; refine zO 8 83 15 511 ?_; refine zO 9 84 15 1023 ?_; refine zO 10 85 15 2047 ?_; refine zO 11 86 15 4095 ?_; refine zO 12 87 15 8191 ?_; refine zO 13 88 15 16383 ?_; refine zP 14 89 15 32767 ?_; refine done_ (by kernel_rfl) ?_
               try go_wp2
               replace HO_8 := aS (Kd.R_drew HO_8.out); replace HO_9 := aS (Kd.R_drew HO_9.out); replace HB := aS (below_drew1 HB.out); have p413 : 0 ≤ (x10_1 : Int) := od; have q413 : x10_1 < (t397.length : Int) := od; obtain ⟨ad413, e413, hx413_0, hx413_1⟩ := at_T24 (Kd.R_reads' HO_8.out).2.2 x10_1 p413 q413; obtain rfl : ad400 = ad413 := (by injection e413); replace p413 := eq_true p413; replace q413 := eq_true q413; have p414 : 0 ≤ ((ji64) : Int) := od; have q414 : (ji64) < (t397.length : Int) := od; obtain ⟨ad414, e414, hx414_0, hx414_1⟩ := at_T24 (Kd.R_reads' HO_8.out).2.2 (ji64) p414 q414; obtain rfl : ad400 = ad414 := (by injection e414); replace p414 := eq_true p414; replace q414 := eq_true q414; refine start_ (n := 14) (S := fun w' => w'.cell? (ad400.add ((x10_1).toNat * 2)) = some (.int .i64 ((rd_T24 t397 x10_1).f0)) ∧ w'.cell? ⟨(ad400.add ((x10_1).toNat * 2)).block, (ad400.add ((x10_1).toNat * 2)).off + 1, none⟩ = some (.int .i64 ((rd_T24 t397 x10_1).f1)) ∧ w'.cell? (ad400.add (((ji64)).toNat * 2)) = some (.int .i64 ((rd_T24 t397 (ji64)).f0)) ∧ w'.cell? ⟨(ad400.add (((ji64)).toNat * 2)).block, (ad400.add (((ji64)).toNat * 2)).off + 1, none⟩ = some (.int .i64 ((rd_T24 t397 (ji64)).f1))) (ds := [11, 12]) (bs 14 0) (by kernel_rfl) rfl rfl ⟨hx413_0, hx413_1, hx414_0, hx414_1⟩ (fun hHeld => ?_)
               generalize w69.drew = w70 at HO_8 HO_9 HB hx413_0 hx413_1 hx414_0 hx414_1 hHeld ⊢; refine zP 0 100 14 1 ?_; refine zP 1 101 14 3 ?_; refine zP 2 102 14 7 ?_; refine zP 3 103 14 15 ?_; refine zP 5 105 14 47 ?_; refine zP 6 106 14 111 ?_; refine zP 7 107 14 239 ?_; refine zP 8 108 14 495 ?_; refine zT 4 104 14 511 hHeld ?_; refine zT 9 109 14 1023 hHeld ?_; refine zP 10 110 14 2047 ?_; refine zL 11 (some 111) 14 4095 (fun K hK => ?_); refine value_ (w1 := ?_) (v := ?_) (by rfl) rfl ?_ ?_
               rotate_left 2
               ·go_simp
                constructor
                ·rfl
                rfl
               refine hK.out _ _ ?_; clear hK K; refine zM 111 ?_; refine zL 12 (some 112) 14 8191 (fun K hK => ?_); refine Kd.R_append_step k53 (w0 := w) w.heap.size (by rfl) (.tmp 100) (.tmp 111) 22 53 (.agg #[(.int .i64 0), (.int .i64 0), (.int .i64 0), (.int .i64 0)]) 32 rfl Tryz.underlying22 info53 rfl (by decide) (by omega) (.slice Ao68 x9_1.length co68) x9_1 (⟨(⟨(rd_T24 t397 x10_1).f0, (rd_T24 t397 x10_1).f1⟩ : S24), (⟨(rd_T24 t397 (ji64)).f0, (rd_T24 t397 (ji64)).f1⟩ : S24)⟩ : S53) [.int .i64 ((rd_T24 t397 x10_1).f0), .int .i64 ((rd_T24 t397 x10_1).f1), .int .i64 ((rd_T24 t397 (ji64)).f0), .int .i64 ((rd_T24 t397 (ji64)).f1)] (fun _ => True) (fun _ => False) rfl rfl ?aP (fun _ hk => hk.elim) ?aF ?aO ?aB ?aS ?aL ?_
               (case aP => exact k53_mkM _ _ _ (⟨(⟨(rd_T24 t397 x10_1).f0, (rd_T24 t397 x10_1).f1⟩ : S24), (⟨(rd_T24 t397 (ji64)).f0, (rd_T24 t397 (ji64)).f1⟩ : S24)⟩ : S53))
               (case aB => exact bz)
               (case aF => exact (fun _ _ => trivial))
               (case aO => exact (rz HO_9))
               (case aS => exact sz)
               (case aL => have := LMc67.out; omega)
               intro v416 w71 ho hb hg hat; rw [← Ny415.out] at ho; replace HO_8 := aS (Kd.R_over' (rz HO_8) (Kd.R_typed (rz HO_9)) (by decide) hg); replace HB := aS (hb); have HO417 := aS (ho); clear HO_9; clear ho hb hg hat; refine hK.out _ _ ?_; clear hK K; refine zM 112 ?_; refine zP 13 9 14 16383 ?_; refine done_ (by kernel_rfl) ?_
               try go_wp2
               go_roundg kj17
               case measure => have := HK1.out; have := HJ17.out; omega
               case rel => exact ⟨(y415), (ji64), (by first | rfl | (simp; done) | (simp only [← hji64] <;> (first | rfl | simp)) | (simp [*]; done)), H', ⟨by have := HK1.out; have := HJ17.out; omega⟩, ⟨rz HO_8⟩, ⟨rz HO417⟩, ⟨bz⟩⟩
              rw [if_neg c67] at H
              exact absurd H (by simp)
             rw [if_neg c66] at H
             exact absurd H (by simp)
            rw [if_neg c65] at H
            exact absurd H (by simp)
           rw [if_neg c63] at H
           exact absurd H (by simp)
          rw [if_neg c62] at H
          exact absurd H (by simp)
       rw [if_neg c15] at H
       exact absurd H (by simp)
      rw [if_neg c14] at H
      exact absurd H (by simp)
     rw [if_neg c13] at H; have c13b0 : decide ((wrap64 (x10_1 + 1)) < (t397.length : Int)) = false := decide_eq_false c13; clear c13; obtain rfl := Option.some.inj H; obtain ⟨Ao72, co72, eo72⟩ := Kd.R_slice HO_8.out; subst eo72
     go_wp2
     go_ret
     exact ⟨_, ez, by refine aR ?_; exact HO_9.out, bz⟩
  rw [if_neg c5] at H
  exact absurd H (by simp)
 rw [if_neg c4] at H
 exact absurd H (by simp)
end Go.Proofs.YtekommcfpjonmaaGreat.E
namespace Go.Proofs.YtekommcfpjonmaaGreat.E
open Z RowKit YtekommcfpjonmaaGreatW.PrintWords YtekommcfpjonmaaGreatW.PrintLast YtekommcfpjonmaaGreatW.PrintMore
attribute [local go_sem] max2_int min2_int max_two min_two
def dioramaref02_combined.f (k : Nat) (l0 : List (S53)) (l1 : List (S53)) (a2 : Int) : Option ((List (S53)) × Int) := (dioramaref02_areSpans.f k l0).bind fun t418 => (if t418 = true then ((dioramaref02_areSpans.f k l1).bind fun t419 => (if t419 = true then ((dioramaref02_joined.f k l0 l1 a2).bind fun t420 => (some (t420, 0))) else (some (([] : List (S53)), 4)))) else (some (([] : List (S53)), 4)))
theorem dioramaref02_combined.calls (k : Nat) (A0 : Option Addr) (c0 : Nat) (l0 : List (S53)) (A1 : Option Addr) (c1 : Nat) (l1 : List (S53)) (a2 : Int) (r1 : List (S53)) (r2 : Int) (w : World) (hr0 : Kd.C k53 w A0 l0.length l0) (hc0 : l0.length ≤ c0) (hr1 : Kd.C k53 w A1 l1.length l1) (hc1 : l1.length ≤ c1) (h : dioramaref02_combined.f k l0 l1 a2 = some (r1, r2)) :
  Calls Tryz.prog 45 #[.slice A0 l0.length c0, .slice A1 l1.length c1, .int .i64 a2] w fun e w' => ∃ v0_ : Value, e = .returned (.tuple #[v0_, .int .i64 r2]) ∧ Kd.R k53 53 w' w.heap.size (fun _ => True) v0_ r1 ∧ Below w.heap.size w w' := by
 have HR0 := aS hr0; have HC0 := aS hc0; clear hr0 hc0; have HR1 := aS hr1; have HC1 := aS hc1; clear hr1 hc1; have HB := aS (Below.refl w.heap.size w); have H : ((dioramaref02_areSpans.f k l0).bind fun t418 => (if t418 = true then ((dioramaref02_areSpans.f k l1).bind fun t419 => (if t419 = true then ((dioramaref02_joined.f k l0 l1 a2).bind fun t420 => (some (t420, 0))) else (some (([] : List (S53)), 4)))) else (some (([] : List (S53)), 4)))) = some (r1, r2) := h
 clear h; obtain ⟨t418, A4, H⟩ := ob H
 by_cases c5 : t418 = true
 ·subst c5; rw [if_pos rfl] at H; obtain ⟨t419, A6, H⟩ := ob H
  by_cases c7 : t419 = true
  ·subst c7; rw [if_pos rfl] at H; obtain ⟨t420, A8, H⟩ := ob H; simp only [Option.some.injEq, Prod.mk.injEq] at H; obtain ⟨rfl, rfl⟩ := H
   go_enter Tryz.func45, Tryz.ntmps45
   go_wp2_with (first | ((with_reducible refine gate_callee (f := 41) rfl ?_); refine zC 9 Tryz.func41 #[.slice A0 l0.length c0] ?_; (with_reducible refine (dioramaref02_areSpans.calls k _ _ l0 true _ ?side1 ?side2 A4.out).mono ?_); (case side1 => repeat (first | exact HR0.out | (with_reducible refine Kd.C_alloc ?_ _) | (with_reducible refine Kd.C_drewN ?_ _) | (with_reducible refine Kd.C_drew ?_))); (case side2 => exact HC0.out); rintro e w9 ⟨rfl, hb⟩; refine ⟨_, rfl, ?_⟩; replace HB := bp hb; clear hb) | (go_at_call 41; (with_reducible refine (dioramaref02_areSpans.calls k _ _ l1 true _ ?side1 ?side2 A6.out).mono ?_); (case side1 => exact cz HR1); (case side2 => exact HC1.out); rintro e w10 ⟨rfl, hb⟩; replace HB := bp hb; clear hb) | ((with_reducible refine gate_callee (f := 44) rfl ?_); refine zC 19 Tryz.func44 #[.slice A0 l0.length c0, .slice A1 l1.length c1, .int .i64 a2] ?_; (with_reducible refine (dioramaref02_joined.calls k _ _ l0 _ _ l1 a2 t420 _ ?side1 ?side2 ?side3 ?side4 A8.out).mono ?_); (case side1 => exact cz HR0); (case side2 => exact HC0.out); (case side3 => exact cz HR1); (case side4 => exact HC1.out); rintro e w11 ⟨v421, rfl, ho0, hb⟩; refine ⟨_, rfl, ?_⟩; have HO422 := aS (Kd.R_lower ho0 sz); replace HB := bp hb; clear hb ho0))
   go_ret2
   exact ⟨_, ez, by refine aR ?_; exact HO422.out, bz⟩
  obtain rfl := bf c7; rw [if_neg (show ¬ (false = true) by decide)] at H; simp only [Option.some.injEq, Prod.mk.injEq] at H; obtain ⟨rfl, rfl⟩ := H
  go_enter Tryz.func45, Tryz.ntmps45
  go_wp2_with (first | ((with_reducible refine gate_callee (f := 41) rfl ?_); refine zC 9 Tryz.func41 #[.slice A0 l0.length c0] ?_; (with_reducible refine (dioramaref02_areSpans.calls k _ _ l0 true _ ?side1 ?side2 A4.out).mono ?_); (case side1 => repeat (first | exact HR0.out | (with_reducible refine Kd.C_alloc ?_ _) | (with_reducible refine Kd.C_drewN ?_ _) | (with_reducible refine Kd.C_drew ?_))); (case side2 => exact HC0.out); rintro e w12 ⟨rfl, hb⟩; refine ⟨_, rfl, ?_⟩; replace HB := bp hb; clear hb) | (go_at_call 41; (with_reducible refine (dioramaref02_areSpans.calls k _ _ l1 false _ ?side1 ?side2 A6.out).mono ?_); (case side1 => exact cz HR1); (case side2 => exact HC1.out); rintro e w13 ⟨rfl, hb⟩; replace HB := bp hb; clear hb))
  go_ret2
  exact ⟨_, ez, by first | exact Kd.R_nil _ _ _ _ _ | exact Kd.N_nil _ _ _ _ _ | exact Kd.V_nil _ _ _ _ _ | exact Kd.Q_nil _ _ _ _ _ | exact Kd.S_nil _ _ _ _ _, bz⟩
 obtain rfl := bf c5; rw [if_neg (show ¬ (false = true) by decide)] at H; simp only [Option.some.injEq, Prod.mk.injEq] at H; obtain ⟨rfl, rfl⟩ := H
 go_enter Tryz.func45, Tryz.ntmps45
 go_wp2_with (first | ((with_reducible refine gate_callee (f := 41) rfl ?_); refine zC 9 Tryz.func41 #[.slice A0 l0.length c0] ?_; (with_reducible refine (dioramaref02_areSpans.calls k _ _ l0 false _ ?side1 ?side2 A4.out).mono ?_); (case side1 => repeat (first | exact HR0.out | (with_reducible refine Kd.C_alloc ?_ _) | (with_reducible refine Kd.C_drewN ?_ _) | (with_reducible refine Kd.C_drew ?_))); (case side2 => exact HC0.out); rintro e w14 ⟨rfl, hb⟩; refine ⟨_, rfl, ?_⟩; replace HB := bp hb; clear hb))
 go_ret2
 exact ⟨_, ez, by first | exact Kd.R_nil _ _ _ _ _ | exact Kd.N_nil _ _ _ _ _ | exact Kd.V_nil _ _ _ _ _ | exact Kd.Q_nil _ _ _ _ _ | exact Kd.S_nil _ _ _ _ _, bz⟩
def dioramaref02_Clean.f (k : Nat) (l0 : List (S53)) : Option ((List (S53)) × Int) := (dioramaref02_combined.f k l0 ([] : List (S53)) 0).bind fun bt423 => (some (bt423.1, bt423.2))
theorem dioramaref02_Clean.calls (k : Nat) (A0 : Option Addr) (c0 : Nat) (l0 : List (S53)) (r1 : List (S53)) (r2 : Int) (w : World) (hr0 : Kd.C k53 w A0 l0.length l0) (hc0 : l0.length ≤ c0) (h : dioramaref02_Clean.f k l0 = some (r1, r2)) :
  Calls Tryz.prog 15 #[.slice A0 l0.length c0] w fun e w' => ∃ v0_ : Value, e = .returned (.tuple #[v0_, .int .i64 r2]) ∧ Kd.R k53 53 w' w.heap.size (fun _ => True) v0_ r1 ∧ Below w.heap.size w w' := by
 have HR0 := aS hr0; have HC0 := aS hc0; clear hr0 hc0; have HB := aS (Below.refl w.heap.size w); have H : ((dioramaref02_combined.f k l0 ([] : List (S53)) 0).bind fun bt423 => (some (bt423.1, bt423.2))) = some (r1, r2) := h
 clear h; obtain ⟨⟨t423, t424⟩, A2, H⟩ := ob H
 (try dsimp only at H)
 simp only [Option.some.injEq, Prod.mk.injEq] at H; obtain ⟨rfl, rfl⟩ := H
 go_enter Tryz.func15, Tryz.ntmps15
 go_wp2_with (first | ((with_reducible refine gate_callee (f := 45) rfl ?_); refine zC 5 Tryz.func45 #[.slice A0 l0.length c0, .slice none 0 0, .int .i64 0] ?_; (refine (dioramaref02_combined.calls k _ _ l0 _ _ ([] : List (S53)) 0 t423 t424 _ ?side1 ?side2 ?side3 ?side4 A2.out).mono ?_); (case side1 => repeat (first | exact HR0.out | (with_reducible refine Kd.C_alloc ?_ _) | (with_reducible refine Kd.C_drewN ?_ _) | (with_reducible refine Kd.C_drew ?_))); (case side2 => exact HC0.out); (case side3 => exact Kd.C_nil _ _); (case side4 => exact Nat.le_refl _); rintro e w3 ⟨v425, rfl, ho0, hb⟩; refine ⟨_, rfl, ?_⟩; have HO426 := aS (Kd.R_lower ho0 sz); replace HB := bp hb; clear hb ho0))
 go_ret2
 exact ⟨_, ez, by refine aR ?_; exact HO426.out, bz⟩
def dioramaref10_isScale.f (a0 : Int) : Option (Bool) := if a0 ≥ 1 then (some (decide (a0 ≤ 1000000))) else (some false)
theorem dioramaref10_isScale.calls (a0 : Int) (r : Bool) (w : World) (h : dioramaref10_isScale.f a0 = some r) :
  Calls Tryz.prog 118 #[.int .i64 a0] w fun e w' => e = .returned (.bool r) ∧ Drawn0 w w' := by
 have H : (if a0 ≥ 1 then (some (decide (a0 ≤ 1000000))) else (some false)) = some r := h; clear h
 by_cases c2 : a0 ≥ 1
 ·rw [if_pos c2] at H; have c2b0 : decide (1 ≤ a0) = true := decide_eq_true c2; clear c2; obtain rfl := Option.some.inj H
  go_enter Tryz.func118, Tryz.ntmps118
  go_wp2
  go_ret
  exact ⟨by first | rfl | (simp; done) | (simp [*]; done), by repeat (first | exact Drawn0.refl _ | apply Drawn0.step)⟩
 rw [if_neg c2] at H; have c2b0 : decide (1 ≤ a0) = false := decide_eq_false c2; clear c2; obtain rfl := Option.some.inj H
 go_enter Tryz.func118, Tryz.ntmps118
 go_wp2
 go_ret
 exact ⟨by first | rfl | (simp; done) | (simp [*]; done), by repeat (first | exact Drawn0.refl _ | apply Drawn0.step)⟩
def dioramaref10_isEmpty.f (a0_0 : Int) (a0_1 : Int) (a0_2 : Int) (a0_3 : Int) : Option (Bool) := some (a0_1 == (-1))
theorem dioramaref10_isEmpty.calls (a0_0 : Int) (a0_1 : Int) (a0_2 : Int) (a0_3 : Int) (r : Bool) (w : World) (h : dioramaref10_isEmpty.f a0_0 a0_1 a0_2 a0_3 = some r) :
  Calls Tryz.prog 70 #[.agg #[.int .i64 a0_0, .int .i64 a0_1, .int .i64 a0_2, .int .i64 a0_3]] w fun e w' => e = .returned (.bool r) ∧ Below w.heap.size w w' := by
 have hu67 := Tryz.underlying67; have HB := aS (Below.refl w.heap.size w); have H : (some (a0_1 == (-1))) = some r := h; clear h; obtain rfl := Option.some.inj H
 go_enter Tryz.func70, Tryz.ntmps70
 go_wp2_with (first | ((with_reducible refine gate_dst (N := 1) rfl ?_); refine zB 1 67 #[.int .i64 a0_0, .int .i64 a0_1, .int .i64 a0_2, .int .i64 a0_3] ?_; intro gb427 hg w2 hbox hb; have BK427 := aS hbox; have GW427 := gz hg; have GE427 := gz hg; replace HB := bp hb; clear hb hbox hg; obtain ⟨hcz3_0, hcz3_1, hcz3_2, hcz3_3, hfz3_0, hfz3_1, hfz3_2, hfz3_3⟩ := xc4 BK427))
 go_ret
 exact ⟨ez, bz⟩
def dioramaref10_badEdit.f (a0_0 : Int) (a0_1 : Int) (a0_2 : Int) (a0_3 : Int) : Option (Bool) := if a0_0 < 1 then (some true) else (if a0_0 > 1099511627776 then (some true) else (if a0_1 < (-1) then (some true) else (if a0_1 > 1099511627776 then (some true) else (if a0_2 < 0 then (some true) else (if a0_2 > 1000 then (some true) else (if a0_3 < 1 then (some true) else (if a0_3 > 1000 then (some true) else ((dioramaref10_isEmpty.f a0_0 a0_1 a0_2 a0_3).bind fun t429 => (if t429 = true then (if a0_2 = 1 then (some (a0_3 != 1)) else (some true)) else (some false))))))))))
theorem dioramaref10_badEdit.calls (a0_0 : Int) (a0_1 : Int) (a0_2 : Int) (a0_3 : Int) (r : Bool) (w : World) (h : dioramaref10_badEdit.f a0_0 a0_1 a0_2 a0_3 = some r) :
  Calls Tryz.prog 119 #[.agg #[.int .i64 a0_0, .int .i64 a0_1, .int .i64 a0_2, .int .i64 a0_3]] w fun e w' => e = .returned (.bool r) ∧ Below w.heap.size w w' := by
 have hu67 := Tryz.underlying67; have HB := aS (Below.refl w.heap.size w); have H : (if a0_0 < 1 then (some true) else (if a0_0 > 1099511627776 then (some true) else (if a0_1 < (-1) then (some true) else (if a0_1 > 1099511627776 then (some true) else (if a0_2 < 0 then (some true) else (if a0_2 > 1000 then (some true) else (if a0_3 < 1 then (some true) else (if a0_3 > 1000 then (some true) else ((dioramaref10_isEmpty.f a0_0 a0_1 a0_2 a0_3).bind fun t429 => (if t429 = true then (if a0_2 = 1 then (some (a0_3 != 1)) else (some true)) else (some false))))))))))) = some r := h
 clear h
 by_cases c2 : a0_0 < 1
 ·rw [if_pos c2] at H; have c2b0 : decide (a0_0 < 1) = true := decide_eq_true c2; clear c2; obtain rfl := Option.some.inj H
  go_enter Tryz.func119, Tryz.ntmps119
  go_wp2_with (first | ((with_reducible refine gate_dst (N := 1) rfl ?_); refine zB 1 67 #[.int .i64 a0_0, .int .i64 a0_1, .int .i64 a0_2, .int .i64 a0_3] ?_; intro gb428 hg w3 hbox hb; have BK428 := aS hbox; have GW428 := gz hg; have GE428 := gz hg; replace HB := bp hb; clear hb hbox hg; obtain ⟨hcz4_0, hcz4_1, hcz4_2, hcz4_3, hfz4_0, hfz4_1, hfz4_2, hfz4_3⟩ := xc4 BK428))
  go_ret
  exact ⟨ez, bz⟩
 rw [if_neg c2] at H; have c2b0 : decide (a0_0 < 1) = false := decide_eq_false c2; clear c2
 by_cases c5 : a0_0 > 1099511627776
 ·rw [if_pos c5] at H; have c5b0 : decide (1099511627776 < a0_0) = true := decide_eq_true c5; clear c5; obtain rfl := Option.some.inj H
  go_enter Tryz.func119, Tryz.ntmps119
  go_wp2_with (first | ((with_reducible refine gate_dst (N := 1) rfl ?_); refine zB 1 67 #[.int .i64 a0_0, .int .i64 a0_1, .int .i64 a0_2, .int .i64 a0_3] ?_; intro gb428 hg w6 hbox hb; have BK428 := aS hbox; have GW428 := gz hg; have GE428 := gz hg; replace HB := bp hb; clear hb hbox hg; obtain ⟨hcz7_0, hcz7_1, hcz7_2, hcz7_3, hfz7_0, hfz7_1, hfz7_2, hfz7_3⟩ := xc4 BK428))
  go_ret
  exact ⟨ez, bz⟩
 rw [if_neg c5] at H; have c5b0 : decide (1099511627776 < a0_0) = false := decide_eq_false c5; clear c5
 by_cases c8 : a0_1 < (-1)
 ·rw [if_pos c8] at H; have c8b0 : decide (a0_1 < (-1)) = true := decide_eq_true c8; clear c8; obtain rfl := Option.some.inj H
  go_enter Tryz.func119, Tryz.ntmps119
  go_wp2_with (first | ((with_reducible refine gate_dst (N := 1) rfl ?_); refine zB 1 67 #[.int .i64 a0_0, .int .i64 a0_1, .int .i64 a0_2, .int .i64 a0_3] ?_; intro gb428 hg w9 hbox hb; have BK428 := aS hbox; have GW428 := gz hg; have GE428 := gz hg; replace HB := bp hb; clear hb hbox hg; obtain ⟨hcz10_0, hcz10_1, hcz10_2, hcz10_3, hfz10_0, hfz10_1, hfz10_2, hfz10_3⟩ := xc4 BK428))
  go_ret
  exact ⟨ez, bz⟩
 rw [if_neg c8] at H; have c8b0 : decide (a0_1 < (-1)) = false := decide_eq_false c8; clear c8
 by_cases c11 : a0_1 > 1099511627776
 ·rw [if_pos c11] at H; have c11b0 : decide (1099511627776 < a0_1) = true := decide_eq_true c11; clear c11; obtain rfl := Option.some.inj H
  go_enter Tryz.func119, Tryz.ntmps119
  go_wp2_with (first | ((with_reducible refine gate_dst (N := 1) rfl ?_); refine zB 1 67 #[.int .i64 a0_0, .int .i64 a0_1, .int .i64 a0_2, .int .i64 a0_3] ?_; intro gb428 hg w12 hbox hb; have BK428 := aS hbox; have GW428 := gz hg; have GE428 := gz hg; replace HB := bp hb; clear hb hbox hg; obtain ⟨hcz13_0, hcz13_1, hcz13_2, hcz13_3, hfz13_0, hfz13_1, hfz13_2, hfz13_3⟩ := xc4 BK428))
  go_ret
  exact ⟨ez, bz⟩
 rw [if_neg c11] at H; have c11b0 : decide (1099511627776 < a0_1) = false := decide_eq_false c11; clear c11
 by_cases c14 : a0_2 < 0
 ·rw [if_pos c14] at H; have c14b0 : decide (a0_2 < 0) = true := decide_eq_true c14; clear c14; obtain rfl := Option.some.inj H
  go_enter Tryz.func119, Tryz.ntmps119
  go_wp2_with (first | ((with_reducible refine gate_dst (N := 1) rfl ?_); refine zB 1 67 #[.int .i64 a0_0, .int .i64 a0_1, .int .i64 a0_2, .int .i64 a0_3] ?_; intro gb428 hg w15 hbox hb; have BK428 := aS hbox; have GW428 := gz hg; have GE428 := gz hg; replace HB := bp hb; clear hb hbox hg; obtain ⟨hcz16_0, hcz16_1, hcz16_2, hcz16_3, hfz16_0, hfz16_1, hfz16_2, hfz16_3⟩ := xc4 BK428))
  go_ret
  exact ⟨ez, bz⟩
 rw [if_neg c14] at H; have c14b0 : decide (a0_2 < 0) = false := decide_eq_false c14; clear c14
 by_cases c17 : a0_2 > 1000
 ·rw [if_pos c17] at H; have c17b0 : decide (1000 < a0_2) = true := decide_eq_true c17; clear c17; obtain rfl := Option.some.inj H
  go_enter Tryz.func119, Tryz.ntmps119
  go_wp2_with (first | ((with_reducible refine gate_dst (N := 1) rfl ?_); refine zB 1 67 #[.int .i64 a0_0, .int .i64 a0_1, .int .i64 a0_2, .int .i64 a0_3] ?_; intro gb428 hg w18 hbox hb; have BK428 := aS hbox; have GW428 := gz hg; have GE428 := gz hg; replace HB := bp hb; clear hb hbox hg; obtain ⟨hcz19_0, hcz19_1, hcz19_2, hcz19_3, hfz19_0, hfz19_1, hfz19_2, hfz19_3⟩ := xc4 BK428))
  go_ret
  exact ⟨ez, bz⟩
 rw [if_neg c17] at H; have c17b0 : decide (1000 < a0_2) = false := decide_eq_false c17; clear c17
 by_cases c20 : a0_3 < 1
 ·rw [if_pos c20] at H; have c20b0 : decide (a0_3 < 1) = true := decide_eq_true c20; clear c20; obtain rfl := Option.some.inj H
  go_enter Tryz.func119, Tryz.ntmps119
  go_wp2_with (first | ((with_reducible refine gate_dst (N := 1) rfl ?_); refine zB 1 67 #[.int .i64 a0_0, .int .i64 a0_1, .int .i64 a0_2, .int .i64 a0_3] ?_; intro gb428 hg w21 hbox hb; have BK428 := aS hbox; have GW428 := gz hg; have GE428 := gz hg; replace HB := bp hb; clear hb hbox hg; obtain ⟨hcz22_0, hcz22_1, hcz22_2, hcz22_3, hfz22_0, hfz22_1, hfz22_2, hfz22_3⟩ := xc4 BK428))
  go_ret
  exact ⟨ez, bz⟩
 rw [if_neg c20] at H; have c20b0 : decide (a0_3 < 1) = false := decide_eq_false c20; clear c20
 by_cases c23 : a0_3 > 1000
 ·rw [if_pos c23] at H; have c23b0 : decide (1000 < a0_3) = true := decide_eq_true c23; clear c23; obtain rfl := Option.some.inj H
  go_enter Tryz.func119, Tryz.ntmps119
  go_wp2_with (first | ((with_reducible refine gate_dst (N := 1) rfl ?_); refine zB 1 67 #[.int .i64 a0_0, .int .i64 a0_1, .int .i64 a0_2, .int .i64 a0_3] ?_; intro gb428 hg w24 hbox hb; have BK428 := aS hbox; have GW428 := gz hg; have GE428 := gz hg; replace HB := bp hb; clear hb hbox hg; obtain ⟨hcz25_0, hcz25_1, hcz25_2, hcz25_3, hfz25_0, hfz25_1, hfz25_2, hfz25_3⟩ := xc4 BK428))
  go_ret
  exact ⟨ez, bz⟩
 rw [if_neg c23] at H; have c23b0 : decide (1000 < a0_3) = false := decide_eq_false c23; clear c23; obtain ⟨t429, A26, H⟩ := ob H
 by_cases c27 : t429 = true
 ·subst c27; rw [if_pos rfl] at H
  by_cases c28 : a0_2 = 1
  ·rw [if_pos c28] at H; have c28b0 : (a0_2 == 1) = true := beq_iff_eq.mpr c28; have c28b1 : (a0_2 != 1) = false := bne_eq_false_iff_eq.mpr c28; clear c28; obtain rfl := Option.some.inj H
   go_enter Tryz.func119, Tryz.ntmps119
   go_wp2_with (first | ((with_reducible refine gate_dst (N := 1) rfl ?_); refine zB 1 67 #[.int .i64 a0_0, .int .i64 a0_1, .int .i64 a0_2, .int .i64 a0_3] ?_; intro gb428 hg w29 hbox hb; have BK428 := aS hbox; have GW428 := gz hg; have GE428 := gz hg; replace HB := bp hb; clear hb hbox hg; obtain ⟨hcz30_0, hcz30_1, hcz30_2, hcz30_3, hfz30_0, hfz30_1, hfz30_2, hfz30_3⟩ := xc4 BK428) | ((with_reducible refine gate_callee (f := 70) rfl ?_); refine zC 42 Tryz.func70 #[.agg #[.int .i64 a0_0, .int .i64 a0_1, .int .i64 a0_2, .int .i64 a0_3]] ?_; (with_reducible refine (dioramaref10_isEmpty.calls a0_0 a0_1 a0_2 a0_3 true _ A26.out).mono ?_); rintro e w31 ⟨rfl, hb⟩; refine ⟨_, rfl, ?_⟩; replace BK428 := kb BK428 hb; replace HB := bp hb; clear hb; obtain ⟨hcz32_0, hcz32_1, hcz32_2, hcz32_3, hfz32_0, hfz32_1, hfz32_2, hfz32_3⟩ := xc4 BK428))
   go_ret
   exact ⟨ez, bz⟩
  rw [if_neg c28] at H; have c28b0 : (a0_2 == 1) = false := beq_eq_false_iff_ne.mpr c28; have c28b1 : (a0_2 != 1) = true := bne_iff_ne.mpr c28; obtain rfl := Option.some.inj H
  go_enter Tryz.func119, Tryz.ntmps119
  go_wp2_with (first | ((with_reducible refine gate_dst (N := 1) rfl ?_); refine zB 1 67 #[.int .i64 a0_0, .int .i64 a0_1, .int .i64 a0_2, .int .i64 a0_3] ?_; intro gb428 hg w33 hbox hb; have BK428 := aS hbox; have GW428 := gz hg; have GE428 := gz hg; replace HB := bp hb; clear hb hbox hg; obtain ⟨hcz34_0, hcz34_1, hcz34_2, hcz34_3, hfz34_0, hfz34_1, hfz34_2, hfz34_3⟩ := xc4 BK428) | ((with_reducible refine gate_callee (f := 70) rfl ?_); refine zC 42 Tryz.func70 #[.agg #[.int .i64 a0_0, .int .i64 a0_1, .int .i64 a0_2, .int .i64 a0_3]] ?_; (with_reducible refine (dioramaref10_isEmpty.calls a0_0 a0_1 a0_2 a0_3 true _ A26.out).mono ?_); rintro e w35 ⟨rfl, hb⟩; refine ⟨_, rfl, ?_⟩; replace BK428 := kb BK428 hb; replace HB := bp hb; clear hb; obtain ⟨hcz36_0, hcz36_1, hcz36_2, hcz36_3, hfz36_0, hfz36_1, hfz36_2, hfz36_3⟩ := xc4 BK428))
  go_ret
  exact ⟨ez, bz⟩
 obtain rfl := bf c27; rw [if_neg (show ¬ (false = true) by decide)] at H; obtain rfl := Option.some.inj H
 go_enter Tryz.func119, Tryz.ntmps119
 go_wp2_with (first | ((with_reducible refine gate_dst (N := 1) rfl ?_); refine zB 1 67 #[.int .i64 a0_0, .int .i64 a0_1, .int .i64 a0_2, .int .i64 a0_3] ?_; intro gb428 hg w37 hbox hb; have BK428 := aS hbox; have GW428 := gz hg; have GE428 := gz hg; replace HB := bp hb; clear hb hbox hg; obtain ⟨hcz38_0, hcz38_1, hcz38_2, hcz38_3, hfz38_0, hfz38_1, hfz38_2, hfz38_3⟩ := xc4 BK428) | ((with_reducible refine gate_callee (f := 70) rfl ?_); refine zC 42 Tryz.func70 #[.agg #[.int .i64 a0_0, .int .i64 a0_1, .int .i64 a0_2, .int .i64 a0_3]] ?_; (with_reducible refine (dioramaref10_isEmpty.calls a0_0 a0_1 a0_2 a0_3 false _ A26.out).mono ?_); rintro e w39 ⟨rfl, hb⟩; refine ⟨_, rfl, ?_⟩; replace BK428 := kb BK428 hb; replace HB := bp hb; clear hb))
 go_ret
 exact ⟨ez, bz⟩
mutual
def dioramaref10_Check.j0 : Nat → List (S67) → Bool → Option (Int)
  | 0, _, _ => none
  | k + 1, x0, x16 => if x16 = true then (some 1) else (if (x0.length : Int) > 20 then (some 2) else (dioramaref10_Check.l0 k x0 0 0))
def dioramaref10_Check.l0 : Nat → List (S67) → Int → Int → Option (Int)
  | 0, _, _, _ => none
  | k + 1, x0, x7, x8 => if x8 < (x0.length : Int) then (if 0 ≤ x8 then ((dioramaref10_badEdit.f ((rd_T67 x0 x8).f0) ((rd_T67 x0 x8).f1) ((rd_T67 x0 x8).f2) ((rd_T67 x0 x8).f3)).bind fun t433 => (if t433 = true then (some 33) else (dioramaref10_Check.l0 k x0 (wrap64 (x7 + ((rd_T67 x0 x8).f0))) (wrap64 (x8 + 1))))) else (none)) else (if x7 > 1099511627776 then (some 33) else (some 0))
end
def dioramaref10_Check.f (k : Nat) (l0 : List (S67)) (a1 : Int) (a2 : Int) : Option (Int) := (dioramaref10_isScale.f a1).bind fun t430 => (if t430 = true then ((dioramaref10_isScale.f a2).bind fun t431 => (dioramaref10_Check.j0 k l0 (!t431))) else (dioramaref10_Check.j0 k l0 true))
theorem dioramaref10_Check.calls (k : Nat) (A0 : Option Addr) (c0 : Nat) (l0 : List (S67)) (a1 : Int) (a2 : Int) (r : Int) (w : World) (hr0 : Kd.C k67 w A0 l0.length l0) (hc0 : l0.length ≤ c0) (h : dioramaref10_Check.f k l0 a1 a2 = some r) :
  Calls Tryz.prog 67 #[.slice A0 l0.length c0, .int .i64 a1, .int .i64 a2] w fun e w' => e = .returned (.int .i64 r) ∧ Below w.heap.size w w' := by
 have hu67 := Tryz.underlying67; have HR0 := aS hr0; have HC0 := aS hc0; clear hr0 hc0; have HB := aS (Below.refl w.heap.size w); have H : ((dioramaref10_isScale.f a1).bind fun t430 => (if t430 = true then ((dioramaref10_isScale.f a2).bind fun t431 => (dioramaref10_Check.j0 k l0 (!t431))) else (dioramaref10_Check.j0 k l0 true))) = some r := h
 clear h; have HC4 := aS H; clear H
 go_enter Tryz.func67, Tryz.ntmps67
 go_upto_region 1 with (fail)
 go_cut [16] (fun v16 wc => ∃ (kq : Nat) (x16_3 : Bool), v16 = .bool x16_3 ∧ Aside0 (dioramaref10_Check.j0 kq l0 x16_3 = some r) ∧ Aside0 (kq ≤ k) ∧ Aside0 (Below w.heap.size w wc))
 case first =>
  have H := HC4.out; clear HC4; obtain ⟨t430, A5, H⟩ := ob H
  by_cases c6 : t430 = true
  ·subst c6; rw [if_pos rfl] at H; obtain ⟨t431, A7, H⟩ := ob H; have H' := aS H; clear H
   go_wp2_with (first | ((with_reducible refine gate_callee (f := 118) rfl ?_); refine zC 10 Tryz.func118 #[.int .i64 a1] ?_; (with_reducible refine (dioramaref10_isScale.calls a1 true _ A5.out).mono ?_); rintro e w' ⟨rfl, ⟨nd, rfl⟩⟩; refine ⟨_, rfl, ?_⟩) | (go_at_call 118; (with_reducible refine (dioramaref10_isScale.calls a2 t431 _ A7.out).mono ?_); rintro e w' ⟨rfl, ⟨nd, rfl⟩⟩))
   go_meet
   case rel => exact ⟨_, (!t431), jz, H', ⟨by first | omega | exact Nat.le_refl _⟩, ⟨bz⟩⟩
  obtain rfl := bf c6; rw [if_neg (show ¬ (false = true) by decide)] at H; have H' := aS H; clear H
  go_wp2_with (first | ((with_reducible refine gate_callee (f := 118) rfl ?_); refine zC 10 Tryz.func118 #[.int .i64 a1] ?_; (with_reducible refine (dioramaref10_isScale.calls a1 false _ A5.out).mono ?_); rintro e w' ⟨rfl, ⟨nd, rfl⟩⟩; refine ⟨_, rfl, ?_⟩))
  go_meet
  case rel => exact ⟨_, (true), jz, H', ⟨by first | omega | exact Nat.le_refl _⟩, ⟨bz⟩⟩
 case rest =>
  clear HC4
  try clear c1
  try clear p2
  try clear c6
  obtain ⟨kq, x16_3, rfl, HA, HJ3, HB⟩ := hcut
  cases kq with
  | zero => exact absurd HA.out (by simp [dioramaref10_Check.j0])
  | succ kj3 =>
   have H := HA.out; clear HA; simp only [dioramaref10_Check.j0] at H
   by_cases c8 : x16_3 = true
   ·subst c8; rw [if_pos rfl] at H; obtain rfl := Option.some.inj H
    go_wp2
    go_ret
    exact ⟨ez, bz⟩
   obtain rfl := bf c8; rw [if_neg (show ¬ (false = true) by decide)] at H
   by_cases c9 : (l0.length : Int) > 20
   ·rw [if_pos c9] at H; have c9b0 : decide (20 < (l0.length : Int)) = true := decide_eq_true c9; have c9b1 : decide (20 < l0.length) = true := decide_eq_true (by omega); clear c9; obtain rfl := Option.some.inj H
    go_wp2
    go_ret
    exact ⟨ez, bz⟩
   rw [if_neg c9] at H; have c9b0 : decide (20 < (l0.length : Int)) = false := decide_eq_false c9; have c9b1 : decide (20 < l0.length) = false := decide_eq_false (by omega); clear c9; have H' := aS H; clear H
   go_wp2
   go_loopg [7, 8] kj3 (fun kq v7 v8 w' => ∃ (x7_2 : Int) (x8_2 : Int), v7 = .int .i64 x7_2 ∧ v8 = .int .i64 x8_2 ∧ Aside0 (dioramaref10_Check.l0 kq l0 x7_2 x8_2 = some r) ∧ Aside0 (kq ≤ kj3) ∧ Aside0 (Below w.heap.size w w'))
   case atStart => exact ⟨(0), (0), jz, jz, H', ⟨Nat.le_refl _⟩, ⟨bz⟩⟩
   case round =>
    clear H'
    try clear c1
    try clear p2
    try clear c6
    try clear c8
    try clear c9
    try clear c9b0
    try clear c9b1
    try clear p2
    obtain ⟨x7_2, x8_2, rfl, rfl, HA, HK2, HB⟩ := hrel
    cases gk with
    | zero => exact absurd HA.out (by simp [dioramaref10_Check.l0])
    | succ k2 =>
     have H := HA.out; clear HA; simp only [dioramaref10_Check.l0] at H
     by_cases c10 : x8_2 < (l0.length : Int)
     ·rw [if_pos c10] at H; have c10b0 : decide (x8_2 < (l0.length : Int)) = true := decide_eq_true c10; clear c10
      by_cases c11 : 0 ≤ x8_2
      ·rw [if_pos c11] at H; have c11b0 : decide (0 ≤ x8_2) = true := decide_eq_true c11; clear c11; obtain ⟨t433, A12, H⟩ := ob H
       by_cases c13 : t433 = true
       ·subst c13; rw [if_pos rfl] at H; obtain rfl := Option.some.inj H; have p432 : 0 ≤ (x8_2 : Int) := od; have q432 : x8_2 < (l0.length : Int) := od; obtain ⟨ad432, e432, hx432_0, hx432_1, hx432_2, hx432_3⟩ := at_T67 HR0.out x8_2 p432 q432
        cases e432
        replace hx432_0 := cl HB hx432_0; replace hx432_1 := cl HB hx432_1; replace hx432_2 := cl HB hx432_2; replace hx432_3 := cl HB hx432_3; replace p432 := eq_true p432; replace q432 := eq_true q432
        go_wp2_with (first | ((with_reducible refine gate_callee (f := 119) rfl ?_); refine zC 30 Tryz.func119 #[.agg #[.int .i64 ((rd_T67 l0 x8_2).f0), .int .i64 ((rd_T67 l0 x8_2).f1), .int .i64 ((rd_T67 l0 x8_2).f2), .int .i64 ((rd_T67 l0 x8_2).f3)]] ?_; (with_reducible refine (dioramaref10_badEdit.calls ((rd_T67 l0 x8_2).f0) ((rd_T67 l0 x8_2).f1) ((rd_T67 l0 x8_2).f2) ((rd_T67 l0 x8_2).f3) true _ A12.out).mono ?_); rintro e w14 ⟨rfl, hb⟩; refine ⟨_, rfl, ?_⟩; replace HB := bp hb; clear hb))
        go_ret
        exact ⟨ez, bz⟩
       obtain rfl := bf c13; rw [if_neg (show ¬ (false = true) by decide)] at H; have H' := aS H; clear H; have p432 : 0 ≤ (x8_2 : Int) := od; have q432 : x8_2 < (l0.length : Int) := od; obtain ⟨ad432, e432, hx432_0, hx432_1, hx432_2, hx432_3⟩ := at_T67 HR0.out x8_2 p432 q432
       cases e432
       replace hx432_0 := cl HB hx432_0; replace hx432_1 := cl HB hx432_1; replace hx432_2 := cl HB hx432_2; replace hx432_3 := cl HB hx432_3; replace p432 := eq_true p432; replace q432 := eq_true q432
       go_wp2_with (first | ((with_reducible refine gate_callee (f := 119) rfl ?_); refine zC 30 Tryz.func119 #[.agg #[.int .i64 ((rd_T67 l0 x8_2).f0), .int .i64 ((rd_T67 l0 x8_2).f1), .int .i64 ((rd_T67 l0 x8_2).f2), .int .i64 ((rd_T67 l0 x8_2).f3)]] ?_; (with_reducible refine (dioramaref10_badEdit.calls ((rd_T67 l0 x8_2).f0) ((rd_T67 l0 x8_2).f1) ((rd_T67 l0 x8_2).f2) ((rd_T67 l0 x8_2).f3) false _ A12.out).mono ?_); rintro e w15 ⟨rfl, hb⟩; refine ⟨_, rfl, ?_⟩; replace HB := bp hb; clear hb; have p434 : 0 ≤ (x8_2 : Int) := od; have q434 : x8_2 < (l0.length : Int) := od; obtain ⟨ad434, e434, hx434_0, hx434_1, hx434_2, hx434_3⟩ := at_T67 HR0.out x8_2 p434 q434; obtain rfl : ad432 = ad434 := (by injection e434); replace hx434_0 := cl HB hx434_0; replace hx434_1 := cl HB hx434_1; replace hx434_2 := cl HB hx434_2; replace hx434_3 := cl HB hx434_3; replace p434 := eq_true p434; replace q434 := eq_true q434))
       go_roundg k2
       case measure => have := HJ3.out; have := HK2.out; omega
       case rel => exact ⟨(wrap64 (x7_2 + ((rd_T67 l0 x8_2).f0))), (wrap64 (x8_2 + 1)), jz, jz, H', ⟨by have := HJ3.out; have := HK2.out; omega⟩, ⟨bz⟩⟩
      rw [if_neg c11] at H
      exact absurd H (by simp)
     rw [if_neg c10] at H; have c10b0 : decide (x8_2 < (l0.length : Int)) = false := decide_eq_false c10; clear c10
     by_cases c16 : x7_2 > 1099511627776
     ·rw [if_pos c16] at H; have c16b0 : decide (1099511627776 < x7_2) = true := decide_eq_true c16; clear c16; obtain rfl := Option.some.inj H
      go_wp2
      go_ret
      exact ⟨ez, bz⟩
     rw [if_neg c16] at H; have c16b0 : decide (1099511627776 < x7_2) = false := decide_eq_false c16; clear c16; obtain rfl := Option.some.inj H
     go_wp2
     go_ret
     exact ⟨ez, bz⟩
def dioramaref10_ratio.f (k : Nat) (a0 : Int) (a1 : Int) : Option (Bool × List Int × List Int) := if a0 < 0 then ((dioramaref02_Of.f k (wrap64 (-a0))).bind fun t436 => ((dioramaref02_Of.f k a1).bind fun t439 => (some (true, t436, t439)))) else ((dioramaref02_Of.f k a0).bind fun t442 => ((dioramaref02_Of.f k a1).bind fun t445 => (some (false, t442, t445))))
theorem dioramaref10_ratio.calls (k : Nat) (a0 : Int) (a1 : Int) (r1 : Bool) (r2 : List Int) (r3 : List Int) (w : World) (h : dioramaref10_ratio.f k a0 a1 = some (r1, r2, r3)) :
  Calls Tryz.prog 69 #[.int .i64 a0, .int .i64 a1] w fun e w' => ∃ v1_ v2_ : Value, e = .returned (.agg #[.bool r1, v1_, v2_]) ∧ Kd.R (Kd.int .i64) 3 w' w.heap.size (fun k_ => some k_ ≠ (v2_ : Value).ownBlock) v1_ r2 ∧ Kd.R (Kd.int .i64) 3 w' w.heap.size (fun k_ => some k_ ≠ (v1_ : Value).ownBlock) v2_ r3 ∧ Below w.heap.size w w' := by
 have hu79 := Tryz.underlying79; have HB := aS (Below.refl w.heap.size w); have H : (if a0 < 0 then ((dioramaref02_Of.f k (wrap64 (-a0))).bind fun t436 => ((dioramaref02_Of.f k a1).bind fun t439 => (some (true, t436, t439)))) else ((dioramaref02_Of.f k a0).bind fun t442 => ((dioramaref02_Of.f k a1).bind fun t445 => (some (false, t442, t445))))) = some (r1, r2, r3) := h
 clear h
 by_cases c3 : a0 < 0
 ·rw [if_pos c3] at H; have c3b0 : decide (a0 < 0) = true := decide_eq_true c3; clear c3; obtain ⟨t436, A4, H⟩ := ob H; obtain ⟨t439, A5, H⟩ := ob H; simp only [Option.some.injEq, Prod.mk.injEq] at H; obtain ⟨rfl, rfl, rfl⟩ := H
  go_enter Tryz.func69, Tryz.ntmps69
  go_wp2_with (first | ((with_reducible refine gate_dst (N := 4) rfl ?_); refine zB 4 79 #[.bool false, .slice none 0 0, .slice none 0 0] ?_; intro gb435 hg w6 hbox hb; have BK435 := aS hbox; have GW435 := gz hg; have GE435 := gz hg; replace HB := bp hb; clear hb hbox hg) | ((with_reducible refine gate_callee (f := 121) rfl ?_); refine zC 9 Tryz.func121 #[.int .i64 (wrap64 (-a0))] ?_; (with_reducible refine (dioramaref02_Of.calls k (wrap64 (-a0)) t436 _ A4.out).mono ?_); rintro e w7 ⟨v437, rfl, ho0, hb⟩; refine ⟨_, rfl, ?_⟩; have HO438 := aS (Kd.R_lower ho0 sz); replace BK435 := kb BK435 hb; replace HB := bp hb; clear hb ho0) | ((with_reducible refine gate_callee (f := 121) rfl ?_); refine zC 11 Tryz.func121 #[.int .i64 a1] ?_; (with_reducible refine (dioramaref02_Of.calls k a1 t439 _ A5.out).mono ?_); rintro e w8 ⟨v440, rfl, ho0, hb⟩; refine ⟨_, rfl, ?_⟩; have HO441 := aS (Kd.R_lower (Kd.R_new' ho0 (Kd.R_lt (rz HO438))) sz); replace HO438 := aS (Kd.R_elder' (rz HO438) (Kd.R_base ho0) hb); replace BK435 := kb BK435 hb; replace HB := bp hb; clear hb ho0; obtain ⟨Ao9, co9, eo9⟩ := Kd.R_slice HO441.out; subst eo9; obtain ⟨Ao10, co10, eo10⟩ := Kd.R_slice HO438.out; subst eo10; obtain ⟨hcz11_0, hcz11_1, hcz11_2, hfz11_0, hfz11_1, hfz11_2⟩ := xc3 BK435))
  refine bodyPost_ret (results_cell_row rfl _ _ gb435 79 #[.bool true, .slice Ao10 t436.length co10, .slice Ao9 t439.length co9] (0, 0) _ rfl (by refine aB ?_; refine blk_put (cs := #[.bool true, .slice Ao10 t436.length co10, .slice none 0 0]) ?_ 2 _ rfl; refine aB ?_; refine blk_put (cs := #[.bool true, .slice none 0 0, .slice none 0 0]) ?_ 1 _ rfl; refine aB ?_; refine blk_put (cs := #[.bool false, .slice none 0 0, .slice none 0 0]) ?_ 0 _ rfl; refine aB ?_; exact BK435.out) Tryz.underlying79 rfl (by kernel_rfl)) rfl ?_
  exact ⟨_, _, ez, by refine aR ?_; exact Kd.R_mono (Kd.R_far (p := ⟨gb435, 2, none⟩) (Kd.R_far (p := ⟨gb435, 1, none⟩) (Kd.R_far (p := ⟨gb435, 0, none⟩) (Kd.R_types HO438.out BK435.out (by decide)) (fun _ hk => hk.2) (.bool true)) (fun _ hk => hk.2) (.slice Ao10 t436.length co10)) (fun _ hk => hk.2) (.slice Ao9 t439.length co9)) (fun _ hk => hk.1.2), by refine aR ?_; exact Kd.R_mono (Kd.R_far (p := ⟨gb435, 2, none⟩) (Kd.R_far (p := ⟨gb435, 1, none⟩) (Kd.R_far (p := ⟨gb435, 0, none⟩) (Kd.R_types HO441.out BK435.out (by decide)) (fun _ hk => hk.2) (.bool true)) (fun _ hk => hk.2) (.slice Ao10 t436.length co10)) (fun _ hk => hk.2) (.slice Ao9 t439.length co9)) (fun _ hk => hk.1.2), bz⟩
 rw [if_neg c3] at H; have c3b0 : decide (a0 < 0) = false := decide_eq_false c3; clear c3; obtain ⟨t442, A12, H⟩ := ob H; obtain ⟨t445, A13, H⟩ := ob H; simp only [Option.some.injEq, Prod.mk.injEq] at H; obtain ⟨rfl, rfl, rfl⟩ := H
 go_enter Tryz.func69, Tryz.ntmps69
 go_wp2_with (first | ((with_reducible refine gate_dst (N := 4) rfl ?_); refine zB 4 79 #[.bool false, .slice none 0 0, .slice none 0 0] ?_; intro gb435 hg w14 hbox hb; have BK435 := aS hbox; have GW435 := gz hg; have GE435 := gz hg; replace HB := bp hb; clear hb hbox hg) | ((with_reducible refine gate_callee (f := 121) rfl ?_); refine zC 14 Tryz.func121 #[.int .i64 a0] ?_; (with_reducible refine (dioramaref02_Of.calls k a0 t442 _ A12.out).mono ?_); rintro e w15 ⟨v443, rfl, ho0, hb⟩; refine ⟨_, rfl, ?_⟩; have HO444 := aS (Kd.R_lower ho0 sz); replace BK435 := kb BK435 hb; replace HB := bp hb; clear hb ho0) | ((with_reducible refine gate_callee (f := 121) rfl ?_); refine zC 16 Tryz.func121 #[.int .i64 a1] ?_; (with_reducible refine (dioramaref02_Of.calls k a1 t445 _ A13.out).mono ?_); rintro e w16 ⟨v446, rfl, ho0, hb⟩; refine ⟨_, rfl, ?_⟩; have HO447 := aS (Kd.R_lower (Kd.R_new' ho0 (Kd.R_lt (rz HO444))) sz); replace HO444 := aS (Kd.R_elder' (rz HO444) (Kd.R_base ho0) hb); replace BK435 := kb BK435 hb; replace HB := bp hb; clear hb ho0; obtain ⟨Ao17, co17, eo17⟩ := Kd.R_slice HO447.out; subst eo17; obtain ⟨Ao18, co18, eo18⟩ := Kd.R_slice HO444.out; subst eo18; obtain ⟨hcz19_0, hcz19_1, hcz19_2, hfz19_0, hfz19_1, hfz19_2⟩ := xc3 BK435))
 refine bodyPost_ret (results_cell_row rfl _ _ gb435 79 #[.bool false, .slice Ao18 t442.length co18, .slice Ao17 t445.length co17] (0, 0) _ rfl (by refine aB ?_; refine blk_put (cs := #[.bool false, .slice Ao18 t442.length co18, .slice none 0 0]) ?_ 2 _ rfl; refine aB ?_; refine blk_put (cs := #[.bool false, .slice none 0 0, .slice none 0 0]) ?_ 1 _ rfl; refine aB ?_; refine blk_put (cs := #[.bool false, .slice none 0 0, .slice none 0 0]) ?_ 0 _ rfl; refine aB ?_; exact BK435.out) Tryz.underlying79 rfl (by kernel_rfl)) rfl ?_
 exact ⟨_, _, ez, by refine aR ?_; exact Kd.R_mono (Kd.R_far (p := ⟨gb435, 2, none⟩) (Kd.R_far (p := ⟨gb435, 1, none⟩) (Kd.R_far (p := ⟨gb435, 0, none⟩) (Kd.R_types HO444.out BK435.out (by decide)) (fun _ hk => hk.2) (.bool false)) (fun _ hk => hk.2) (.slice Ao18 t442.length co18)) (fun _ hk => hk.2) (.slice Ao17 t445.length co17)) (fun _ hk => hk.1.2), by refine aR ?_; exact Kd.R_mono (Kd.R_far (p := ⟨gb435, 2, none⟩) (Kd.R_far (p := ⟨gb435, 1, none⟩) (Kd.R_far (p := ⟨gb435, 0, none⟩) (Kd.R_types HO447.out BK435.out (by decide)) (fun _ hk => hk.2) (.bool false)) (fun _ hk => hk.2) (.slice Ao18 t442.length co18)) (fun _ hk => hk.2) (.slice Ao17 t445.length co17)) (fun _ hk => hk.1.2), bz⟩
def dioramaref10_plus.f (k : Nat) (a0_0 : Bool) (l0_1 : List Int) (l0_2 : List Int) (a1_0 : Bool) (l1_1 : List Int) (l1_2 : List Int) : Option (Bool × List Int × List Int) := (dioramaref02_Sum.f k a0_0 l0_1 l0_2 a1_0 l1_1 l1_2).bind fun bt451 => (some (bt451.1, bt451.2.1, bt451.2.2))
theorem dioramaref10_plus.calls (k : Nat) (a0_0 : Bool) (A0_1 : Option Addr) (c0_1 : Nat) (l0_1 : List Int) (A0_2 : Option Addr) (c0_2 : Nat) (l0_2 : List Int) (a1_0 : Bool) (A1_1 : Option Addr) (c1_1 : Nat) (l1_1 : List Int) (A1_2 : Option Addr) (c1_2 : Nat) (l1_2 : List Int) (r1 : Bool) (r2 : List Int) (r3 : List Int) (w : World) (hr0_1 : Kd.C (Kd.int .i64) w A0_1 l0_1.length l0_1) (hc0_1 : l0_1.length ≤ c0_1) (hr0_2 : Kd.C (Kd.int .i64) w A0_2 l0_2.length l0_2) (hc0_2 : l0_2.length ≤ c0_2) (hr1_1 : Kd.C (Kd.int .i64) w A1_1 l1_1.length l1_1) (hc1_1 : l1_1.length ≤ c1_1) (hr1_2 : Kd.C (Kd.int .i64) w A1_2 l1_2.length l1_2) (hc1_2 : l1_2.length ≤ c1_2) (h : dioramaref10_plus.f k a0_0 l0_1 l0_2 a1_0 l1_1 l1_2 = some (r1, r2, r3)) :
  Calls Tryz.prog 73 #[.agg #[.bool a0_0, .slice A0_1 l0_1.length c0_1, .slice A0_2 l0_2.length c0_2], .agg #[.bool a1_0, .slice A1_1 l1_1.length c1_1, .slice A1_2 l1_2.length c1_2]] w fun e w' => ∃ v1_ v2_ : Value, e = .returned (.agg #[.bool r1, v1_, v2_]) ∧ Kd.R (Kd.int .i64) 3 w' w.heap.size (fun k_ => some k_ ≠ (v2_ : Value).ownBlock) v1_ r2 ∧ Kd.R (Kd.int .i64) 3 w' w.heap.size (fun k_ => some k_ ≠ (v1_ : Value).ownBlock) v2_ r3 ∧ Below w.heap.size w w' := by
 have hu79 := Tryz.underlying79; have HR0_1 := aS hr0_1; have HC0_1 := aS hc0_1; clear hr0_1 hc0_1; have HR0_2 := aS hr0_2; have HC0_2 := aS hc0_2; clear hr0_2 hc0_2; have HR1_1 := aS hr1_1; have HC1_1 := aS hc1_1; clear hr1_1 hc1_1; have HR1_2 := aS hr1_2; have HC1_2 := aS hc1_2; clear hr1_2 hc1_2; have HB := aS (Below.refl w.heap.size w); have H : ((dioramaref02_Sum.f k a0_0 l0_1 l0_2 a1_0 l1_1 l1_2).bind fun bt451 => (some (bt451.1, bt451.2.1, bt451.2.2))) = some (r1, r2, r3) := h
 clear h; obtain ⟨⟨t451, t452, t455⟩, A3, H⟩ := ob H
 (try dsimp only at H)
 simp only [Option.some.injEq, Prod.mk.injEq] at H; obtain ⟨rfl, rfl, rfl⟩ := H
 go_enter Tryz.func73, Tryz.ntmps73
 go_wp2_with (first | ((with_reducible refine gate_dst (N := 2) rfl ?_); refine zB 2 79 #[.bool a0_0, .slice A0_1 l0_1.length c0_1, .slice A0_2 l0_2.length c0_2] ?_; intro gb448 hg w4 hbox hb; have BK448 := aS hbox; have GW448 := gz hg; have GE448 := gz hg; replace HB := bp hb; clear hb hbox hg) | ((with_reducible refine gate_dst (N := 3) rfl ?_); refine zB 3 79 #[.bool a1_0, .slice A1_1 l1_1.length c1_1, .slice A1_2 l1_2.length c1_2] ?_; intro gb449 hg w5 hbox hb; have BK449 := aS hbox; have GW449 := gz hg; have GE449 := gz hg; replace HB := bp hb; have NB448_449 := aS ((by rw [hg]; exact Nat.ne_of_lt (bl BK448) : gb448 ≠ gb449)); have NB449_448 := aS ((by rw [hg]; exact Nat.ne_of_gt (bl BK448) : gb449 ≠ gb448)); replace BK448 := kb BK448 hb; clear hb hbox hg) | ((with_reducible refine gate_dst (N := 4) rfl ?_); refine zB 4 79 #[.bool false, .slice none 0 0, .slice none 0 0] ?_; intro gb450 hg w6 hbox hb; have BK450 := aS hbox; have GW450 := gz hg; have GE450 := gz hg; replace HB := bp hb; have NB448_450 := aS ((by rw [hg]; exact Nat.ne_of_lt (bl BK448) : gb448 ≠ gb450)); have NB450_448 := aS ((by rw [hg]; exact Nat.ne_of_gt (bl BK448) : gb450 ≠ gb448)); replace BK448 := kb BK448 hb; have NB449_450 := aS ((by rw [hg]; exact Nat.ne_of_lt (bl BK449) : gb449 ≠ gb450)); have NB450_449 := aS ((by rw [hg]; exact Nat.ne_of_gt (bl BK449) : gb450 ≠ gb449)); replace BK449 := kb BK449 hb; clear hb hbox hg; have hnb7 := NB448_449.out; have hnc7 := NB449_448.out; have hnb8 := NB448_450.out; have hnc8 := NB450_448.out; obtain ⟨hcz9_0, hcz9_1, hcz9_2, hfz9_0, hfz9_1, hfz9_2⟩ := xc3 BK448; have hnb10 := NB449_450.out; have hnc10 := NB450_449.out; obtain ⟨hcz11_0, hcz11_1, hcz11_2, hfz11_0, hfz11_1, hfz11_2⟩ := xc3 BK449) | ((with_reducible refine gate_callee (f := 97) rfl ?_); refine zC 7 Tryz.func97 #[.agg #[.bool a0_0, .slice A0_1 l0_1.length c0_1, .slice A0_2 l0_2.length c0_2], .agg #[.bool a1_0, .slice A1_1 l1_1.length c1_1, .slice A1_2 l1_2.length c1_2]] ?_; (with_reducible refine (dioramaref02_Sum.calls k a0_0 _ _ l0_1 _ _ l0_2 a1_0 _ _ l1_1 _ _ l1_2 t451 t452 t455 _ ?side1 ?side2 ?side3 ?side4 ?side5 ?side6 ?side7 ?side8 A3.out).mono ?_); (case side1 => exact cz HR0_1); (case side2 => exact HC0_1.out); (case side3 => exact cz HR0_2); (case side4 => exact HC0_2.out); (case side5 => exact cz HR1_1); (case side6 => exact HC1_1.out); (case side7 => exact cz HR1_2); (case side8 => exact HC1_2.out); rintro e w12 ⟨v453, v456, rfl, ho0, ho1, hb⟩; refine ⟨_, rfl, ?_⟩; have HO454 := aS (Kd.R_lower ho0 sz); have HO457 := aS (Kd.R_lower ho1 sz); replace BK448 := kb BK448 hb; replace BK449 := kb BK449 hb; replace BK450 := kb BK450 hb; replace HB := bp hb; clear hb ho0 ho1; obtain ⟨hcz13_0, hcz13_1, hcz13_2, hfz13_0, hfz13_1, hfz13_2⟩ := xc3 BK450; obtain ⟨Ao14, co14, eo14⟩ := Kd.R_slice HO454.out; subst eo14; obtain ⟨Ao15, co15, eo15⟩ := Kd.R_slice HO457.out; subst eo15))
 refine bodyPost_ret (results_cell_row rfl _ _ gb450 79 #[.bool t451, .slice Ao14 t452.length co14, .slice Ao15 t455.length co15] (0, 0) _ rfl (by refine aB ?_; refine blk_put (cs := #[.bool t451, .slice Ao14 t452.length co14, .slice none 0 0]) ?_ 2 _ rfl; refine aB ?_; refine blk_put (cs := #[.bool t451, .slice none 0 0, .slice none 0 0]) ?_ 1 _ rfl; refine aB ?_; refine blk_put (cs := #[.bool false, .slice none 0 0, .slice none 0 0]) ?_ 0 _ rfl; refine aB ?_; exact BK450.out) Tryz.underlying79 rfl (by kernel_rfl)) rfl ?_
 exact ⟨_, _, ez, by refine aR ?_; exact Kd.R_mono (Kd.R_far (p := ⟨gb450, 2, none⟩) (Kd.R_far (p := ⟨gb450, 1, none⟩) (Kd.R_far (p := ⟨gb450, 0, none⟩) (Kd.R_types HO454.out BK450.out (by decide)) (fun _ hk => hk.2) (.bool t451)) (fun _ hk => hk.2) (.slice Ao14 t452.length co14)) (fun _ hk => hk.2) (.slice Ao15 t455.length co15)) (fun _ hk => hk.1), by refine aR ?_; exact Kd.R_mono (Kd.R_far (p := ⟨gb450, 2, none⟩) (Kd.R_far (p := ⟨gb450, 1, none⟩) (Kd.R_far (p := ⟨gb450, 0, none⟩) (Kd.R_types HO457.out BK450.out (by decide)) (fun _ hk => hk.2) (.bool t451)) (fun _ hk => hk.2) (.slice Ao14 t452.length co14)) (fun _ hk => hk.2) (.slice Ao15 t455.length co15)) (fun _ hk => hk.1), bz⟩
def dioramaref10_times.f (k : Nat) (a0_0 : Bool) (l0_1 : List Int) (l0_2 : List Int) (a1_0 : Bool) (l1_1 : List Int) (l1_2 : List Int) : Option (Bool × List Int × List Int) := (dioramaref02_Times.f k l0_1 l1_1).bind fun t461 => ((dioramaref02_Times.f k l0_2 l1_2).bind fun t464 => (some ((a0_0 != a1_0), t461, t464)))
theorem dioramaref10_times.calls (k : Nat) (a0_0 : Bool) (A0_1 : Option Addr) (c0_1 : Nat) (l0_1 : List Int) (A0_2 : Option Addr) (c0_2 : Nat) (l0_2 : List Int) (a1_0 : Bool) (A1_1 : Option Addr) (c1_1 : Nat) (l1_1 : List Int) (A1_2 : Option Addr) (c1_2 : Nat) (l1_2 : List Int) (r1 : Bool) (r2 : List Int) (r3 : List Int) (w : World) (hr0_1 : Kd.C (Kd.int .i64) w A0_1 l0_1.length l0_1) (hc0_1 : l0_1.length ≤ c0_1) (hr0_2 : Kd.C (Kd.int .i64) w A0_2 l0_2.length l0_2) (hc0_2 : l0_2.length ≤ c0_2) (hr1_1 : Kd.C (Kd.int .i64) w A1_1 l1_1.length l1_1) (hc1_1 : l1_1.length ≤ c1_1) (hr1_2 : Kd.C (Kd.int .i64) w A1_2 l1_2.length l1_2) (hc1_2 : l1_2.length ≤ c1_2) (h : dioramaref10_times.f k a0_0 l0_1 l0_2 a1_0 l1_1 l1_2 = some (r1, r2, r3)) :
  Calls Tryz.prog 74 #[.agg #[.bool a0_0, .slice A0_1 l0_1.length c0_1, .slice A0_2 l0_2.length c0_2], .agg #[.bool a1_0, .slice A1_1 l1_1.length c1_1, .slice A1_2 l1_2.length c1_2]] w fun e w' => ∃ v1_ v2_ : Value, e = .returned (.agg #[.bool r1, v1_, v2_]) ∧ Kd.R (Kd.int .i64) 3 w' w.heap.size (fun k_ => some k_ ≠ (v2_ : Value).ownBlock) v1_ r2 ∧ Kd.R (Kd.int .i64) 3 w' w.heap.size (fun k_ => some k_ ≠ (v1_ : Value).ownBlock) v2_ r3 ∧ Below w.heap.size w w' := by
 have hu79 := Tryz.underlying79; have HR0_1 := aS hr0_1; have HC0_1 := aS hc0_1; clear hr0_1 hc0_1; have HR0_2 := aS hr0_2; have HC0_2 := aS hc0_2; clear hr0_2 hc0_2; have HR1_1 := aS hr1_1; have HC1_1 := aS hc1_1; clear hr1_1 hc1_1; have HR1_2 := aS hr1_2; have HC1_2 := aS hc1_2; clear hr1_2 hc1_2; have HB := aS (Below.refl w.heap.size w); have H : ((dioramaref02_Times.f k l0_1 l1_1).bind fun t461 => ((dioramaref02_Times.f k l0_2 l1_2).bind fun t464 => (some ((a0_0 != a1_0), t461, t464)))) = some (r1, r2, r3) := h
 clear h; obtain ⟨t461, A3, H⟩ := ob H; obtain ⟨t464, A4, H⟩ := ob H; simp only [Option.some.injEq, Prod.mk.injEq] at H; obtain ⟨rfl, rfl, rfl⟩ := H
 go_enter Tryz.func74, Tryz.ntmps74
 try go_wp2_with (first | ((with_reducible refine gate_dst (N := 2) rfl ?_); refine zB 2 79 #[.bool a0_0, .slice A0_1 l0_1.length c0_1, .slice A0_2 l0_2.length c0_2] ?_; intro gb458 hg w5 hbox hb; have BK458 := aS hbox; have GW458 := gz hg; have GE458 := gz hg; replace HB := bp hb; clear hb hbox hg) | ((with_reducible refine gate_dst (N := 3) rfl ?_); refine zB 3 79 #[.bool a1_0, .slice A1_1 l1_1.length c1_1, .slice A1_2 l1_2.length c1_2] ?_; intro gb459 hg w6 hbox hb; have BK459 := aS hbox; have GW459 := gz hg; have GE459 := gz hg; replace HB := bp hb; have NB458_459 := aS ((by rw [hg]; exact Nat.ne_of_lt (bl BK458) : gb458 ≠ gb459)); have NB459_458 := aS ((by rw [hg]; exact Nat.ne_of_gt (bl BK458) : gb459 ≠ gb458)); replace BK458 := kb BK458 hb; clear hb hbox hg) | ((with_reducible refine gate_dst (N := 4) rfl ?_); refine zB 4 79 #[.bool false, .slice none 0 0, .slice none 0 0] ?_; intro gb460 hg w7 hbox hb; have BK460 := aS hbox; have GW460 := gz hg; have GE460 := gz hg; replace HB := bp hb; have NB458_460 := aS ((by rw [hg]; exact Nat.ne_of_lt (bl BK458) : gb458 ≠ gb460)); have NB460_458 := aS ((by rw [hg]; exact Nat.ne_of_gt (bl BK458) : gb460 ≠ gb458)); replace BK458 := kb BK458 hb; have NB459_460 := aS ((by rw [hg]; exact Nat.ne_of_lt (bl BK459) : gb459 ≠ gb460)); have NB460_459 := aS ((by rw [hg]; exact Nat.ne_of_gt (bl BK459) : gb460 ≠ gb459)); replace BK459 := kb BK459 hb; clear hb hbox hg))
 replace BK458 := aS (blk_drew BK458.out); replace BK459 := aS (blk_drew BK459.out); replace BK460 := aS (blk_drew BK460.out); replace HB := aS (below_drew1 HB.out); refine start_ (n := 17) (S := fun w' => w'.cell? ⟨gb458, 0, none⟩ = some (.bool a0_0) ∧ w'.cell? ⟨gb458, 1, none⟩ = some (.slice A0_1 l0_1.length c0_1) ∧ w'.cell? ⟨gb458, 2, none⟩ = some (.slice A0_2 l0_2.length c0_2) ∧ w'.cell? ⟨gb459, 0, none⟩ = some (.bool a1_0) ∧ w'.cell? ⟨gb459, 1, none⟩ = some (.slice A1_1 l1_1.length c1_1) ∧ w'.cell? ⟨gb459, 2, none⟩ = some (.slice A1_2 l1_2.length c1_2)) (ds := []) (bs 17 0) (by kernel_rfl) rfl rfl ⟨ct BK458 0, ct BK458 1, ct BK458 2, ct BK459 0, ct BK459 1, ct BK459 2⟩ (fun hHeld => ?_)
 generalize w7.drew = w8 at BK458 BK459 BK460 HB hHeld ⊢; refine zP 0 5 17 1 ?_; refine zP 2 7 17 5 ?_; refine zP 5 10 17 37 ?_; refine zP 7 12 17 165 ?_; refine zP 10 15 17 1189 ?_; refine zP 12 17 17 5285 ?_; refine zT 1 6 17 5287 hHeld ?_; refine zT 3 8 17 5295 hHeld ?_; refine zP 4 9 17 5311 ?_; refine zT 6 11 17 5375 hHeld ?_; refine zT 8 13 17 5631 hHeld ?_; refine zT 11 16 17 7679 hHeld ?_; refine zT 13 18 17 15871 hHeld ?_; refine zN 9 (some 14) 17 16383 (fun K hK => ?_); refine zG Tryz.func122 #[.slice A0_1 l0_1.length c0_1, .slice A1_1 l1_1.length c1_1] ?_
 with_reducible refine (dioramaref02_Times.calls k _ _ l0_1 _ _ l1_1 t461 _ ?side1 ?side2 ?side3 ?side4 A3.out).mono ?_
 (case side1 => exact cz HR0_1)
 (case side2 => exact HC0_1.out)
 (case side3 => exact cz HR1_1)
 (case side4 => exact HC1_1.out)
 rintro e w9 ⟨v462, rfl, ho0, hb⟩; refine ⟨_, rfl, ?_⟩; have HO463 := aS (Kd.R_lower ho0 sz); replace BK458 := kb BK458 hb; replace BK459 := kb BK459 hb; replace BK460 := kb BK460 hb; replace HB := bp hb; clear hb ho0; refine hK.out _ _ ⟨ct BK458 0, ct BK458 1, ct BK458 2, ct BK459 0, ct BK459 1, ct BK459 2⟩ (fun hHeld => ?_); clear hK K; refine zM 14 ?_; refine zN 14 (some 19) 17 32767 (fun K hK => ?_); refine zG Tryz.func122 #[.slice A0_2 l0_2.length c0_2, .slice A1_2 l1_2.length c1_2] ?_
 with_reducible refine (dioramaref02_Times.calls k _ _ l0_2 _ _ l1_2 t464 _ ?side1 ?side2 ?side3 ?side4 A4.out).mono ?_
 (case side1 => exact cz HR0_2)
 (case side2 => exact HC0_2.out)
 (case side3 => exact cz HR1_2)
 (case side4 => exact HC1_2.out)
 rintro e w10 ⟨v465, rfl, ho0, hb⟩; refine ⟨_, rfl, ?_⟩; have HO466 := aS (Kd.R_lower (Kd.R_new' ho0 (Kd.R_lt (rz HO463))) sz); replace HO463 := aS (Kd.R_elder' (rz HO463) (Kd.R_base ho0) hb); replace BK458 := kb BK458 hb; replace BK459 := kb BK459 hb; replace BK460 := kb BK460 hb; replace HB := bp hb; clear hb ho0; obtain ⟨Ao11, co11, eo11⟩ := Kd.R_slice HO466.out
 (first | subst eo11 | (injection eo11 with f1_ f2_ f3_; have f4_ := f1_.symm; have f5_ := f3_.symm; clear f1_ f2_ f3_; subst f4_; subst f5_))
 obtain ⟨Ao12, co12, eo12⟩ := Kd.R_slice HO463.out
 (first | subst eo12 | (injection eo12 with f1_ f2_ f3_; have f4_ := f1_.symm; have f5_ := f3_.symm; clear f1_ f2_ f3_; subst f4_; subst f5_))
 refine hK.out _ _ ⟨ct BK458 0, ct BK458 1, ct BK458 2, ct BK459 0, ct BK459 1, ct BK459 2⟩ (fun hHeld => ?_); clear hK K; refine zM 19 ?_; refine zP 15 20 17 65535 ?_; refine zN 16 none 17 131071 (fun K hK => ?_); have hs13 : w10.cell? ⟨gb460, 0, none⟩ = some (.bool false) := ct BK460 0; have hfs13 := blk_frozen BK460.out 0; have hns13_0 := NB458_460.out; have hns13_1 := NB459_460.out; have hms13_0 := NB460_458.out; have hms13_1 := NB460_459.out; have hs14 : w10.cell? ⟨gb460, 1, none⟩ = some (.slice none 0 0) := ct BK460 1; have hfs14 := blk_frozen BK460.out 1; have hns14_0 := NB458_460.out; have hns14_1 := NB459_460.out; have hms14_0 := NB460_458.out; have hms14_1 := NB460_459.out; have hs15 : w10.cell? ⟨gb460, 2, none⟩ = some (.slice none 0 0) := ct BK460 2; have hfs15 := blk_frozen BK460.out 2; have hns15_0 := NB458_460.out; have hns15_1 := NB459_460.out; have hms15_0 := NB460_458.out; have hms15_1 := NB460_459.out; refine skip_ (w1 := ?_) (by rfl) rfl ?_ ?_
 rotate_left
 ·go_simp
  rfl
 refine hK.out _ _ ⟨((cell_far (p := ⟨gb460, _, none⟩) NB458_460.out _).trans (((cell_far (p := ⟨gb460, _, none⟩) NB458_460.out _).trans (((cell_far (p := ⟨gb460, _, none⟩) NB458_460.out _).trans (hHeld.1)))))), ((cell_far (p := ⟨gb460, _, none⟩) NB458_460.out _).trans (((cell_far (p := ⟨gb460, _, none⟩) NB458_460.out _).trans (((cell_far (p := ⟨gb460, _, none⟩) NB458_460.out _).trans (hHeld.2.1)))))), ((cell_far (p := ⟨gb460, _, none⟩) NB458_460.out _).trans (((cell_far (p := ⟨gb460, _, none⟩) NB458_460.out _).trans (((cell_far (p := ⟨gb460, _, none⟩) NB458_460.out _).trans (hHeld.2.2.1)))))), ((cell_far (p := ⟨gb460, _, none⟩) NB459_460.out _).trans (((cell_far (p := ⟨gb460, _, none⟩) NB459_460.out _).trans (((cell_far (p := ⟨gb460, _, none⟩) NB459_460.out _).trans (hHeld.2.2.2.1)))))), ((cell_far (p := ⟨gb460, _, none⟩) NB459_460.out _).trans (((cell_far (p := ⟨gb460, _, none⟩) NB459_460.out _).trans (((cell_far (p := ⟨gb460, _, none⟩) NB459_460.out _).trans (hHeld.2.2.2.2.1)))))), ((cell_far (p := ⟨gb460, _, none⟩) NB459_460.out _).trans (((cell_far (p := ⟨gb460, _, none⟩) NB459_460.out _).trans (((cell_far (p := ⟨gb460, _, none⟩) NB459_460.out _).trans (hHeld.2.2.2.2.2))))))⟩ (fun hHeld => ?_); clear hK K; refine done_ (by kernel_rfl) ?_
 try go_wp2
 refine bodyPost_ret (results_cell_row rfl _ _ gb460 79 #[.bool (a0_0 != a1_0), .slice Ao12 t461.length co12, .slice Ao11 t464.length co11] (0, 0) _ rfl (by refine aB ?_; refine blk_put (cs := #[.bool (a0_0 != a1_0), .slice Ao12 t461.length co12, .slice none 0 0]) ?_ 2 _ rfl; refine aB ?_; refine blk_put (cs := #[.bool (a0_0 != a1_0), .slice none 0 0, .slice none 0 0]) ?_ 1 _ rfl; refine aB ?_; refine blk_put (cs := #[.bool false, .slice none 0 0, .slice none 0 0]) ?_ 0 _ rfl; refine aB ?_; exact BK460.out) Tryz.underlying79 rfl (by kernel_rfl)) rfl ?_
 exact ⟨_, _, ez, by refine aR ?_; exact Kd.R_mono (Kd.R_far (p := ⟨gb460, 2, none⟩) (Kd.R_far (p := ⟨gb460, 1, none⟩) (Kd.R_far (p := ⟨gb460, 0, none⟩) (Kd.R_types HO463.out BK460.out (by decide)) (fun _ hk => hk.2) (.bool (a0_0 != a1_0))) (fun _ hk => hk.2) (.slice Ao12 t461.length co12)) (fun _ hk => hk.2) (.slice Ao11 t464.length co11)) (fun _ hk => hk.1.2), by refine aR ?_; exact Kd.R_mono (Kd.R_far (p := ⟨gb460, 2, none⟩) (Kd.R_far (p := ⟨gb460, 1, none⟩) (Kd.R_far (p := ⟨gb460, 0, none⟩) (Kd.R_types HO466.out BK460.out (by decide)) (fun _ hk => hk.2) (.bool (a0_0 != a1_0))) (fun _ hk => hk.2) (.slice Ao12 t461.length co12)) (fun _ hk => hk.2) (.slice Ao11 t464.length co11)) (fun _ hk => hk.1.2), bz⟩
def dioramaref10_rate.f (k : Nat) (a0_0 : Int) (a0_1 : Int) (a0_2 : Int) (a0_3 : Int) : Option (Bool × List Int × List Int) := (dioramaref10_ratio.f k a0_2 a0_3).bind fun bt469 => (some (bt469.1, bt469.2.1, bt469.2.2))
theorem dioramaref10_rate.calls (k : Nat) (a0_0 : Int) (a0_1 : Int) (a0_2 : Int) (a0_3 : Int) (r1 : Bool) (r2 : List Int) (r3 : List Int) (w : World) (h : dioramaref10_rate.f k a0_0 a0_1 a0_2 a0_3 = some (r1, r2, r3)) :
  Calls Tryz.prog 123 #[.agg #[.int .i64 a0_0, .int .i64 a0_1, .int .i64 a0_2, .int .i64 a0_3]] w fun e w' => ∃ v1_ v2_ : Value, e = .returned (.agg #[.bool r1, v1_, v2_]) ∧ Kd.R (Kd.int .i64) 3 w' w.heap.size (fun k_ => some k_ ≠ (v2_ : Value).ownBlock) v1_ r2 ∧ Kd.R (Kd.int .i64) 3 w' w.heap.size (fun k_ => some k_ ≠ (v1_ : Value).ownBlock) v2_ r3 ∧ Below w.heap.size w w' := by
 have hu67 := Tryz.underlying67; have hu79 := Tryz.underlying79; have HB := aS (Below.refl w.heap.size w); have H : ((dioramaref10_ratio.f k a0_2 a0_3).bind fun bt469 => (some (bt469.1, bt469.2.1, bt469.2.2))) = some (r1, r2, r3) := h
 clear h; obtain ⟨⟨t469, t470, t473⟩, A2, H⟩ := ob H
 (try dsimp only at H)
 simp only [Option.some.injEq, Prod.mk.injEq] at H; obtain ⟨rfl, rfl, rfl⟩ := H
 go_enter Tryz.func123, Tryz.ntmps123
 go_wp2_with (first | ((with_reducible refine gate_dst (N := 1) rfl ?_); refine zB 1 67 #[.int .i64 a0_0, .int .i64 a0_1, .int .i64 a0_2, .int .i64 a0_3] ?_; intro gb467 hg w3 hbox hb; have BK467 := aS hbox; have GW467 := gz hg; have GE467 := gz hg; replace HB := bp hb; clear hb hbox hg) | ((with_reducible refine gate_dst (N := 2) rfl ?_); refine zB 2 79 #[.bool false, .slice none 0 0, .slice none 0 0] ?_; intro gb468 hg w4 hbox hb; have BK468 := aS hbox; have GW468 := gz hg; have GE468 := gz hg; replace HB := bp hb; have NB467_468 := aS ((by rw [hg]; exact Nat.ne_of_lt (bl BK467) : gb467 ≠ gb468)); have NB468_467 := aS ((by rw [hg]; exact Nat.ne_of_gt (bl BK467) : gb468 ≠ gb467)); replace BK467 := kb BK467 hb; clear hb hbox hg; have hnb5 := NB467_468.out; have hnc5 := NB468_467.out; obtain ⟨hcz6_0, hcz6_1, hcz6_2, hcz6_3, hfz6_0, hfz6_1, hfz6_2, hfz6_3⟩ := xc4 BK467) | ((with_reducible refine gate_callee (f := 69) rfl ?_); refine zC 7 Tryz.func69 #[.int .i64 a0_2, .int .i64 a0_3] ?_; (with_reducible refine (dioramaref10_ratio.calls k a0_2 a0_3 t469 t470 t473 _ A2.out).mono ?_); rintro e w7 ⟨v471, v474, rfl, ho0, ho1, hb⟩; refine ⟨_, rfl, ?_⟩; have HO472 := aS (Kd.R_lower ho0 sz); have HO475 := aS (Kd.R_lower ho1 sz); replace BK467 := kb BK467 hb; replace BK468 := kb BK468 hb; replace HB := bp hb; clear hb ho0 ho1; obtain ⟨hcz8_0, hcz8_1, hcz8_2, hfz8_0, hfz8_1, hfz8_2⟩ := xc3 BK468; obtain ⟨Ao9, co9, eo9⟩ := Kd.R_slice HO472.out; subst eo9; obtain ⟨Ao10, co10, eo10⟩ := Kd.R_slice HO475.out; subst eo10))
 refine bodyPost_ret (results_cell_row rfl _ _ gb468 79 #[.bool t469, .slice Ao9 t470.length co9, .slice Ao10 t473.length co10] (0, 0) _ rfl (by refine aB ?_; refine blk_put (cs := #[.bool t469, .slice Ao9 t470.length co9, .slice none 0 0]) ?_ 2 _ rfl; refine aB ?_; refine blk_put (cs := #[.bool t469, .slice none 0 0, .slice none 0 0]) ?_ 1 _ rfl; refine aB ?_; refine blk_put (cs := #[.bool false, .slice none 0 0, .slice none 0 0]) ?_ 0 _ rfl; refine aB ?_; exact BK468.out) Tryz.underlying79 rfl (by kernel_rfl)) rfl ?_
 exact ⟨_, _, ez, by refine aR ?_; exact Kd.R_mono (Kd.R_far (p := ⟨gb468, 2, none⟩) (Kd.R_far (p := ⟨gb468, 1, none⟩) (Kd.R_far (p := ⟨gb468, 0, none⟩) (Kd.R_types HO472.out BK468.out (by decide)) (fun _ hk => hk.2) (.bool t469)) (fun _ hk => hk.2) (.slice Ao9 t470.length co9)) (fun _ hk => hk.2) (.slice Ao10 t473.length co10)) (fun _ hk => hk.1), by refine aR ?_; exact Kd.R_mono (Kd.R_far (p := ⟨gb468, 2, none⟩) (Kd.R_far (p := ⟨gb468, 1, none⟩) (Kd.R_far (p := ⟨gb468, 0, none⟩) (Kd.R_types HO475.out BK468.out (by decide)) (fun _ hk => hk.2) (.bool t469)) (fun _ hk => hk.2) (.slice Ao9 t470.length co9)) (fun _ hk => hk.2) (.slice Ao10 t473.length co10)) (fun _ hk => hk.1), bz⟩
def dioramaref10_media.f (k : Nat) (a0_0 : Int) (a0_1 : Int) (a0_2 : Int) (a0_3 : Int) (a1 : Int) (a2_0 : Bool) (l2_1 : List Int) (l2_2 : List Int) : Option (Bool × List Int × List Int) := (dioramaref10_ratio.f k a0_1 a1).bind fun bt479 => ((dioramaref10_rate.f k a0_0 a0_1 a0_2 a0_3).bind fun bt486 => ((dioramaref10_times.f k a2_0 l2_1 l2_2 bt486.1 bt486.2.1 bt486.2.2).bind fun bt493 => ((dioramaref10_plus.f k bt479.1 bt479.2.1 bt479.2.2 bt493.1 bt493.2.1 bt493.2.2).bind fun bt500 => (some (bt500.1, bt500.2.1, bt500.2.2)))))
theorem dioramaref10_media.calls (k : Nat) (a0_0 : Int) (a0_1 : Int) (a0_2 : Int) (a0_3 : Int) (a1 : Int) (a2_0 : Bool) (A2_1 : Option Addr) (c2_1 : Nat) (l2_1 : List Int) (A2_2 : Option Addr) (c2_2 : Nat) (l2_2 : List Int) (r1 : Bool) (r2 : List Int) (r3 : List Int) (w : World) (hr2_1 : Kd.C (Kd.int .i64) w A2_1 l2_1.length l2_1) (hc2_1 : l2_1.length ≤ c2_1) (hr2_2 : Kd.C (Kd.int .i64) w A2_2 l2_2.length l2_2) (hc2_2 : l2_2.length ≤ c2_2) (h : dioramaref10_media.f k a0_0 a0_1 a0_2 a0_3 a1 a2_0 l2_1 l2_2 = some (r1, r2, r3)) :
  Calls Tryz.prog 77 #[.agg #[.int .i64 a0_0, .int .i64 a0_1, .int .i64 a0_2, .int .i64 a0_3], .int .i64 a1, .agg #[.bool a2_0, .slice A2_1 l2_1.length c2_1, .slice A2_2 l2_2.length c2_2]] w fun e w' => ∃ v1_ v2_ : Value, e = .returned (.agg #[.bool r1, v1_, v2_]) ∧ Kd.R (Kd.int .i64) 3 w' w.heap.size (fun k_ => some k_ ≠ (v2_ : Value).ownBlock) v1_ r2 ∧ Kd.R (Kd.int .i64) 3 w' w.heap.size (fun k_ => some k_ ≠ (v1_ : Value).ownBlock) v2_ r3 ∧ Below w.heap.size w w' := by
 have hu67 := Tryz.underlying67; have hu79 := Tryz.underlying79; have HR2_1 := aS hr2_1; have HC2_1 := aS hc2_1; clear hr2_1 hc2_1; have HR2_2 := aS hr2_2; have HC2_2 := aS hc2_2; clear hr2_2 hc2_2; have HB := aS (Below.refl w.heap.size w); have H : ((dioramaref10_ratio.f k a0_1 a1).bind fun bt479 => ((dioramaref10_rate.f k a0_0 a0_1 a0_2 a0_3).bind fun bt486 => ((dioramaref10_times.f k a2_0 l2_1 l2_2 bt486.1 bt486.2.1 bt486.2.2).bind fun bt493 => ((dioramaref10_plus.f k bt479.1 bt479.2.1 bt479.2.2 bt493.1 bt493.2.1 bt493.2.2).bind fun bt500 => (some (bt500.1, bt500.2.1, bt500.2.2)))))) = some (r1, r2, r3) := h
 clear h; obtain ⟨⟨t479, t480, t483⟩, A4, H⟩ := ob H
 (try dsimp only at H)
 obtain ⟨⟨t486, t487, t490⟩, A5, H⟩ := ob H
 (try dsimp only at H)
 obtain ⟨⟨t493, t494, t497⟩, A6, H⟩ := ob H
 (try dsimp only at H)
 obtain ⟨⟨t500, t501, t504⟩, A7, H⟩ := ob H
 (try dsimp only at H)
 simp only [Option.some.injEq, Prod.mk.injEq] at H; obtain ⟨rfl, rfl, rfl⟩ := H
 go_enter Tryz.func77, Tryz.ntmps77
 try go_wp2_with (first | ((with_reducible refine gate_dst (N := 3) rfl ?_); refine zB 3 67 #[.int .i64 a0_0, .int .i64 a0_1, .int .i64 a0_2, .int .i64 a0_3] ?_; intro gb476 hg w8 hbox hb; have BK476 := aS hbox; have GW476 := gz hg; have GE476 := gz hg; replace HB := bp hb; clear hb hbox hg) | ((with_reducible refine gate_dst (N := 5) rfl ?_); refine zB 5 79 #[.bool a2_0, .slice A2_1 l2_1.length c2_1, .slice A2_2 l2_2.length c2_2] ?_; intro gb477 hg w9 hbox hb; have BK477 := aS hbox; have GW477 := gz hg; have GE477 := gz hg; replace HB := bp hb; have NB476_477 := aS ((by rw [hg]; exact Nat.ne_of_lt (bl BK476) : gb476 ≠ gb477)); have NB477_476 := aS ((by rw [hg]; exact Nat.ne_of_gt (bl BK476) : gb477 ≠ gb476)); replace BK476 := kb BK476 hb; clear hb hbox hg) | ((with_reducible refine gate_dst (N := 6) rfl ?_); refine zB 6 79 #[.bool false, .slice none 0 0, .slice none 0 0] ?_; intro gb478 hg w10 hbox hb; have BK478 := aS hbox; have GW478 := gz hg; have GE478 := gz hg; replace HB := bp hb; have NB476_478 := aS ((by rw [hg]; exact Nat.ne_of_lt (bl BK476) : gb476 ≠ gb478)); have NB478_476 := aS ((by rw [hg]; exact Nat.ne_of_gt (bl BK476) : gb478 ≠ gb476)); replace BK476 := kb BK476 hb; have NB477_478 := aS ((by rw [hg]; exact Nat.ne_of_lt (bl BK477) : gb477 ≠ gb478)); have NB478_477 := aS ((by rw [hg]; exact Nat.ne_of_gt (bl BK477) : gb478 ≠ gb477)); replace BK477 := kb BK477 hb; clear hb hbox hg))
 replace BK476 := aS (blk_drew BK476.out); replace BK477 := aS (blk_drew BK477.out); replace BK478 := aS (blk_drew BK478.out); replace HB := aS (below_drew1 HB.out); refine start_ (n := 10) (S := fun w' => w'.cell? ⟨gb476, 0, none⟩ = some (.int .i64 a0_0) ∧ w'.cell? ⟨gb476, 1, none⟩ = some (.int .i64 a0_1) ∧ w'.cell? ⟨gb476, 2, none⟩ = some (.int .i64 a0_2) ∧ w'.cell? ⟨gb476, 3, none⟩ = some (.int .i64 a0_3) ∧ w'.cell? ⟨gb477, 0, none⟩ = some (.bool a2_0) ∧ w'.cell? ⟨gb477, 1, none⟩ = some (.slice A2_1 l2_1.length c2_1) ∧ w'.cell? ⟨gb477, 2, none⟩ = some (.slice A2_2 l2_2.length c2_2)) (ds := []) (bs 10 0) (by kernel_rfl) rfl rfl ⟨ct BK476 0, ct BK476 1, ct BK476 2, ct BK476 3, ct BK477 0, ct BK477 1, ct BK477 2⟩ (fun hHeld => ?_)
 generalize w10.drew = w11 at BK476 BK477 BK478 HB hHeld ⊢; refine zP 0 7 10 1 ?_; refine zP 2 9 10 5 ?_; refine zT 1 8 10 7 hHeld ?_; refine zT 4 11 10 23 hHeld ?_; refine zT 5 12 10 55 hHeld ?_; refine zN 3 (some 10) 10 63 (fun K hK => ?_); refine zG Tryz.func69 #[.int .i64 a0_1, .int .i64 a1] ?_
 with_reducible refine (dioramaref10_ratio.calls k a0_1 a1 t479 t480 t483 _ A4.out).mono ?_
 rintro e w12 ⟨v481, v484, rfl, ho0, ho1, hb⟩; refine ⟨_, rfl, ?_⟩; have HO482 := aS (Kd.R_lower ho0 sz); have HO485 := aS (Kd.R_lower ho1 sz); replace BK476 := kb BK476 hb; replace BK477 := kb BK477 hb; replace BK478 := kb BK478 hb; replace HB := bp hb; clear hb ho0 ho1; refine hK.out _ _ ⟨ct BK476 0, ct BK476 1, ct BK476 2, ct BK476 3, ct BK477 0, ct BK477 1, ct BK477 2⟩ (fun hHeld => ?_); clear hK K; refine zM 10 ?_; refine zN 6 (some 13) 10 127 (fun K hK => ?_); refine zG Tryz.func123 #[.agg #[.int .i64 a0_0, .int .i64 a0_1, .int .i64 a0_2, .int .i64 a0_3]] ?_
 with_reducible refine (dioramaref10_rate.calls k a0_0 a0_1 a0_2 a0_3 t486 t487 t490 _ A5.out).mono ?_
 rintro e w13 ⟨v488, v491, rfl, ho0, ho1, hb⟩; refine ⟨_, rfl, ?_⟩; have HO489 := aS (Kd.R_lower (Kd.R_new' (Kd.R_new' ho0 (Kd.R_lt (rz HO482))) (Kd.R_lt (rz HO485))) sz); have HO492 := aS (Kd.R_lower (Kd.R_new' (Kd.R_new' ho1 (Kd.R_lt (rz HO482))) (Kd.R_lt (rz HO485))) sz); replace HO482 := aS (Kd.R_mono (Kd.R_told (Kd.R_told (Kd.R_old (rz HO482) hb) (Kd.R_base ho0)) (Kd.R_base ho1)) (fun _ h_ => h_.1)); replace HO485 := aS (Kd.R_mono (Kd.R_told (Kd.R_told (Kd.R_old (rz HO485) hb) (Kd.R_base ho0)) (Kd.R_base ho1)) (fun _ h_ => h_.1)); replace BK476 := kb BK476 hb; replace BK477 := kb BK477 hb; replace BK478 := kb BK478 hb; replace HB := bp hb; clear hb ho0 ho1; obtain ⟨Ao14, co14, eo14⟩ := Kd.R_slice HO489.out
 (first | subst eo14 | (injection eo14 with f1_ f2_ f3_; have f4_ := f1_.symm; have f5_ := f3_.symm; clear f1_ f2_ f3_; subst f4_; subst f5_))
 obtain ⟨Ao15, co15, eo15⟩ := Kd.R_slice HO492.out
 (first | subst eo15 | (injection eo15 with f1_ f2_ f3_; have f4_ := f1_.symm; have f5_ := f3_.symm; clear f1_ f2_ f3_; subst f4_; subst f5_))
 refine hK.out _ _ ⟨ct BK476 0, ct BK476 1, ct BK476 2, ct BK476 3, ct BK477 0, ct BK477 1, ct BK477 2⟩ (fun hHeld => ?_); clear hK K; refine zM 13 ?_; refine zN 7 (some 14) 10 255 (fun K hK => ?_); refine zG Tryz.func74 #[.agg #[.bool a2_0, .slice A2_1 l2_1.length c2_1, .slice A2_2 l2_2.length c2_2], .agg #[.bool t486, .slice Ao14 t487.length co14, .slice Ao15 t490.length co15]] ?_
 with_reducible refine (dioramaref10_times.calls k a2_0 _ _ l2_1 _ _ l2_2 t486 _ _ t487 _ _ t490 t493 t494 t497 _ ?side1 ?side2 ?side3 ?side4 ?side5 ?side6 ?side7 ?side8 A6.out).mono ?_
 (case side1 => exact cz HR2_1)
 (case side2 => exact HC2_1.out)
 (case side3 => exact cz HR2_2)
 (case side4 => exact HC2_2.out)
 (case side5 => exact cr HO489)
 (case side6 => exact (Kd.R_reads' HO489.out).2.1)
 (case side7 => exact cr HO492)
 (case side8 => exact (Kd.R_reads' HO492.out).2.1)
 rintro e w16 ⟨v495, v498, rfl, ho0, ho1, hb⟩; refine ⟨_, rfl, ?_⟩; have HO496 := aS (Kd.R_lower (Kd.R_new' (Kd.R_new' (Kd.R_new' (Kd.R_new' ho0 (Kd.R_lt (rz HO482))) (Kd.R_lt (rz HO485))) (Kd.R_lt (rz HO489))) (Kd.R_lt (rz HO492))) sz); have HO499 := aS (Kd.R_lower (Kd.R_new' (Kd.R_new' (Kd.R_new' (Kd.R_new' ho1 (Kd.R_lt (rz HO482))) (Kd.R_lt (rz HO485))) (Kd.R_lt (rz HO489))) (Kd.R_lt (rz HO492))) sz); replace HO482 := aS (Kd.R_mono (Kd.R_told (Kd.R_told (Kd.R_old (rz HO482) hb) (Kd.R_base ho0)) (Kd.R_base ho1)) (fun _ h_ => h_.1)); replace HO485 := aS (Kd.R_mono (Kd.R_told (Kd.R_told (Kd.R_old (rz HO485) hb) (Kd.R_base ho0)) (Kd.R_base ho1)) (fun _ h_ => h_.1)); replace HO489 := aS (Kd.R_mono (Kd.R_told (Kd.R_told (Kd.R_old (rz HO489) hb) (Kd.R_base ho0)) (Kd.R_base ho1)) (fun _ h_ => h_.1)); replace HO492 := aS (Kd.R_mono (Kd.R_told (Kd.R_told (Kd.R_old (rz HO492) hb) (Kd.R_base ho0)) (Kd.R_base ho1)) (fun _ h_ => h_.1)); replace BK476 := kb BK476 hb; replace BK477 := kb BK477 hb; replace BK478 := kb BK478 hb; replace HB := bp hb; clear hb ho0 ho1; obtain ⟨Ao17, co17, eo17⟩ := Kd.R_slice HO482.out
 (first | subst eo17 | (injection eo17 with f1_ f2_ f3_; have f4_ := f1_.symm; have f5_ := f3_.symm; clear f1_ f2_ f3_; subst f4_; subst f5_))
 obtain ⟨Ao18, co18, eo18⟩ := Kd.R_slice HO485.out
 (first | subst eo18 | (injection eo18 with f1_ f2_ f3_; have f4_ := f1_.symm; have f5_ := f3_.symm; clear f1_ f2_ f3_; subst f4_; subst f5_))
 obtain ⟨Ao19, co19, eo19⟩ := Kd.R_slice HO496.out
 (first | subst eo19 | (injection eo19 with f1_ f2_ f3_; have f4_ := f1_.symm; have f5_ := f3_.symm; clear f1_ f2_ f3_; subst f4_; subst f5_))
 obtain ⟨Ao20, co20, eo20⟩ := Kd.R_slice HO499.out
 (first | subst eo20 | (injection eo20 with f1_ f2_ f3_; have f4_ := f1_.symm; have f5_ := f3_.symm; clear f1_ f2_ f3_; subst f4_; subst f5_))
 refine hK.out _ _ ⟨ct BK476 0, ct BK476 1, ct BK476 2, ct BK476 3, ct BK477 0, ct BK477 1, ct BK477 2⟩ (fun hHeld => ?_); clear hK K; refine zM 14 ?_; refine zN 8 (some 15) 10 511 (fun K hK => ?_); refine zG Tryz.func73 #[.agg #[.bool t479, .slice Ao17 t480.length co17, .slice Ao18 t483.length co18], .agg #[.bool t493, .slice Ao19 t494.length co19, .slice Ao20 t497.length co20]] ?_
 with_reducible refine (dioramaref10_plus.calls k t479 _ _ t480 _ _ t483 t493 _ _ t494 _ _ t497 t500 t501 t504 _ ?side1 ?side2 ?side3 ?side4 ?side5 ?side6 ?side7 ?side8 A7.out).mono ?_
 (case side1 => exact cr HO482)
 (case side2 => exact (Kd.R_reads' HO482.out).2.1)
 (case side3 => exact cr HO485)
 (case side4 => exact (Kd.R_reads' HO485.out).2.1)
 (case side5 => exact cr HO496)
 (case side6 => exact (Kd.R_reads' HO496.out).2.1)
 (case side7 => exact cr HO499)
 (case side8 => exact (Kd.R_reads' HO499.out).2.1)
 rintro e w21 ⟨v502, v505, rfl, ho0, ho1, hb⟩; refine ⟨_, rfl, ?_⟩; have HO503 := aS (Kd.R_lower (Kd.R_new' (Kd.R_new' (Kd.R_new' (Kd.R_new' (Kd.R_new' (Kd.R_new' ho0 (Kd.R_lt (rz HO482))) (Kd.R_lt (rz HO485))) (Kd.R_lt (rz HO489))) (Kd.R_lt (rz HO492))) (Kd.R_lt (rz HO496))) (Kd.R_lt (rz HO499))) sz); have HO506 := aS (Kd.R_lower (Kd.R_new' (Kd.R_new' (Kd.R_new' (Kd.R_new' (Kd.R_new' (Kd.R_new' ho1 (Kd.R_lt (rz HO482))) (Kd.R_lt (rz HO485))) (Kd.R_lt (rz HO489))) (Kd.R_lt (rz HO492))) (Kd.R_lt (rz HO496))) (Kd.R_lt (rz HO499))) sz); replace HO482 := aS (Kd.R_mono (Kd.R_told (Kd.R_told (Kd.R_old (rz HO482) hb) (Kd.R_base ho0)) (Kd.R_base ho1)) (fun _ h_ => h_.1)); replace HO485 := aS (Kd.R_mono (Kd.R_told (Kd.R_told (Kd.R_old (rz HO485) hb) (Kd.R_base ho0)) (Kd.R_base ho1)) (fun _ h_ => h_.1)); replace HO489 := aS (Kd.R_mono (Kd.R_told (Kd.R_told (Kd.R_old (rz HO489) hb) (Kd.R_base ho0)) (Kd.R_base ho1)) (fun _ h_ => h_.1)); replace HO492 := aS (Kd.R_mono (Kd.R_told (Kd.R_told (Kd.R_old (rz HO492) hb) (Kd.R_base ho0)) (Kd.R_base ho1)) (fun _ h_ => h_.1)); replace HO496 := aS (Kd.R_mono (Kd.R_told (Kd.R_told (Kd.R_old (rz HO496) hb) (Kd.R_base ho0)) (Kd.R_base ho1)) (fun _ h_ => h_.1)); replace HO499 := aS (Kd.R_mono (Kd.R_told (Kd.R_told (Kd.R_old (rz HO499) hb) (Kd.R_base ho0)) (Kd.R_base ho1)) (fun _ h_ => h_.1)); replace BK476 := kb BK476 hb; replace BK477 := kb BK477 hb; replace BK478 := kb BK478 hb; replace HB := bp hb; clear hb ho0 ho1; obtain ⟨Ao23, co23, eo23⟩ := Kd.R_slice HO503.out
 (first | subst eo23 | (injection eo23 with f1_ f2_ f3_; have f4_ := f1_.symm; have f5_ := f3_.symm; clear f1_ f2_ f3_; subst f4_; subst f5_))
 obtain ⟨Ao25, co25, eo25⟩ := Kd.R_slice HO506.out
 (first | subst eo25 | (injection eo25 with f1_ f2_ f3_; have f4_ := f1_.symm; have f5_ := f3_.symm; clear f1_ f2_ f3_; subst f4_; subst f5_))
 refine hK.out _ _ ⟨ct BK476 0, ct BK476 1, ct BK476 2, ct BK476 3, ct BK477 0, ct BK477 1, ct BK477 2⟩ (fun hHeld => ?_); clear hK K; refine zM 15 ?_; refine zN 9 none 10 1023 (fun K hK => ?_); have hs22 : w21.cell? ⟨gb478, 0, none⟩ = some (.bool false) := ct BK478 0; have hfs22 := blk_frozen BK478.out 0; have hns22_0 := NB476_478.out; have hns22_1 := NB477_478.out; have hms22_0 := NB478_476.out; have hms22_1 := NB478_477.out; have hs24 : w21.cell? ⟨gb478, 1, none⟩ = some (.slice none 0 0) := ct BK478 1; have hfs24 := blk_frozen BK478.out 1; have hns24_0 := NB476_478.out; have hns24_1 := NB477_478.out; have hms24_0 := NB478_476.out; have hms24_1 := NB478_477.out; have hs26 : w21.cell? ⟨gb478, 2, none⟩ = some (.slice none 0 0) := ct BK478 2; have hfs26 := blk_frozen BK478.out 2; have hns26_0 := NB476_478.out; have hns26_1 := NB477_478.out; have hms26_0 := NB478_476.out; have hms26_1 := NB478_477.out; refine skip_ (w1 := ?_) (by rfl) rfl ?_ ?_
 rotate_left
 ·go_simp
  rfl
 refine hK.out _ _ ⟨((cell_far (p := ⟨gb478, _, none⟩) NB476_478.out _).trans (((cell_far (p := ⟨gb478, _, none⟩) NB476_478.out _).trans (((cell_far (p := ⟨gb478, _, none⟩) NB476_478.out _).trans (hHeld.1)))))), ((cell_far (p := ⟨gb478, _, none⟩) NB476_478.out _).trans (((cell_far (p := ⟨gb478, _, none⟩) NB476_478.out _).trans (((cell_far (p := ⟨gb478, _, none⟩) NB476_478.out _).trans (hHeld.2.1)))))), ((cell_far (p := ⟨gb478, _, none⟩) NB476_478.out _).trans (((cell_far (p := ⟨gb478, _, none⟩) NB476_478.out _).trans (((cell_far (p := ⟨gb478, _, none⟩) NB476_478.out _).trans (hHeld.2.2.1)))))), ((cell_far (p := ⟨gb478, _, none⟩) NB476_478.out _).trans (((cell_far (p := ⟨gb478, _, none⟩) NB476_478.out _).trans (((cell_far (p := ⟨gb478, _, none⟩) NB476_478.out _).trans (hHeld.2.2.2.1)))))), ((cell_far (p := ⟨gb478, _, none⟩) NB477_478.out _).trans (((cell_far (p := ⟨gb478, _, none⟩) NB477_478.out _).trans (((cell_far (p := ⟨gb478, _, none⟩) NB477_478.out _).trans (hHeld.2.2.2.2.1)))))), ((cell_far (p := ⟨gb478, _, none⟩) NB477_478.out _).trans (((cell_far (p := ⟨gb478, _, none⟩) NB477_478.out _).trans (((cell_far (p := ⟨gb478, _, none⟩) NB477_478.out _).trans (hHeld.2.2.2.2.2.1)))))), ((cell_far (p := ⟨gb478, _, none⟩) NB477_478.out _).trans (((cell_far (p := ⟨gb478, _, none⟩) NB477_478.out _).trans (((cell_far (p := ⟨gb478, _, none⟩) NB477_478.out _).trans (hHeld.2.2.2.2.2.2))))))⟩ (fun hHeld => ?_); clear hK K; refine done_ (by kernel_rfl) ?_
 try go_wp2
 refine bodyPost_ret (results_cell_row rfl _ _ gb478 79 #[.bool t500, .slice Ao23 t501.length co23, .slice Ao25 t504.length co25] (0, 0) _ rfl (by refine aB ?_; refine blk_put (cs := #[.bool t500, .slice Ao23 t501.length co23, .slice none 0 0]) ?_ 2 _ rfl; refine aB ?_; refine blk_put (cs := #[.bool t500, .slice none 0 0, .slice none 0 0]) ?_ 1 _ rfl; refine aB ?_; refine blk_put (cs := #[.bool false, .slice none 0 0, .slice none 0 0]) ?_ 0 _ rfl; refine aB ?_; exact BK478.out) Tryz.underlying79 rfl (by kernel_rfl)) rfl ?_
 exact ⟨_, _, ez, by refine aR ?_; exact Kd.R_mono (Kd.R_far (p := ⟨gb478, 2, none⟩) (Kd.R_far (p := ⟨gb478, 1, none⟩) (Kd.R_far (p := ⟨gb478, 0, none⟩) (Kd.R_types HO503.out BK478.out (by decide)) (fun _ hk => hk.2) (.bool t500)) (fun _ hk => hk.2) (.slice Ao23 t501.length co23)) (fun _ hk => hk.2) (.slice Ao25 t504.length co25)) (fun _ hk => hk.1.1.1.1.1.1.1), by refine aR ?_; exact Kd.R_mono (Kd.R_far (p := ⟨gb478, 2, none⟩) (Kd.R_far (p := ⟨gb478, 1, none⟩) (Kd.R_far (p := ⟨gb478, 0, none⟩) (Kd.R_types HO506.out BK478.out (by decide)) (fun _ hk => hk.2) (.bool t500)) (fun _ hk => hk.2) (.slice Ao23 t501.length co23)) (fun _ hk => hk.2) (.slice Ao25 t504.length co25)) (fun _ hk => hk.1.1.1.1.1.1.1), bz⟩
end Go.Proofs.YtekommcfpjonmaaGreat.E
namespace Go.Proofs.YtekommcfpjonmaaGreat.Sx
open RowKit Go YtekommcfpjonmaaGreatW.PrintWords YtekommcfpjonmaaGreatW.PrintLast YtekommcfpjonmaaGreatW.PrintMore Mn Rf E Sg
abbrev Tm := S24
abbrev Sn := S53
def vT (t : Tm) : Bool := Ea.valid t.f0 t.f1
def qT (t : Tm) : Rat := qq t.f0 t.f1
def lT (q : Rat) : Tm := ⟨q.num, (q.den : Int)⟩
theorem vT_is {t : Tm} (h : vT t = true) : (-1152921504606846976 ≤ t.f0 ∧ t.f0 ≤ 1152921504606846976) ∧ 1 ≤ t.f1 ∧ t.f1 ≤ 1152921504606846976 := by
 unfold vT Ea.valid at h
 simp only [Bool.and_eq_true, decide_eq_true_eq] at h
 omega
theorem qT_lT (q : Rat) : qT (lT q) = q := Rat.num_divInt_den q
theorem parts {a b : Int} (hb : 0 < b) : ∃ g : Int, 0 < g ∧ a = (qq a b).num * g ∧ b = ((qq a b).den : Int) * g := by
 obtain ⟨h1, h2⟩ := rat_low (a := a) (b := b) (by omega)
 refine ⟨(Int.gcd a b : Nat), ?_, ?_, ?_⟩
 ·have := Int.gcd_pos_of_ne_zero_right a (show b ≠ 0 by omega)
  omega
 ·rw [← h1]
  unfold Ra.ratN Ea.lowN
  rw [if_neg (by omega)]
  exact (Int.ediv_mul_cancel (Int.gcd_dvd_left a b)).symm
 rw [← h2]
 unfold Ra.ratD Ea.lowD
 rw [if_neg (by omega)]
 exact (Int.ediv_mul_cancel (Int.gcd_dvd_right a b)).symm
theorem vT_low {t : Tm} (h : vT t = true) : vT (lT (qT t)) = true := by
 have hv := vT_is h
 obtain ⟨g, hg, e1, e2⟩ := parts (a := t.f0) (b := t.f1) (by omega)
 unfold vT Ea.valid lT qT
 generalize hN : (qq t.f0 t.f1).num = N at *
 have hD0 : 0 < ((qq t.f0 t.f1).den : Int) := by have := (qq t.f0 t.f1).den_pos; omega
 generalize ((qq t.f0 t.f1).den : Int) = D at *
 have k1 : D ≤ D * g := by
  have := Int.mul_le_mul_of_nonneg_left (show 1 ≤ g by omega) (Int.le_of_lt hD0)
  omega
 have k2 : N ≤ 1152921504606846976 := by
  refine Int.not_lt.1 fun hc => ?_
  have := Int.mul_le_mul_of_nonneg_left (show 1 ≤ g by omega) (show 0 ≤ N by omega)
  omega
 have k3 : -1152921504606846976 ≤ N := by
  refine Int.not_lt.1 fun hc => ?_
  have := Int.mul_le_mul_of_nonneg_left (show 1 ≤ g by omega) (show 0 ≤ -N by omega)
  simp only [Int.neg_mul] at this
  omega
 simp only [Bool.and_eq_true, decide_eq_true_eq]
 omega
theorem lT_inj {p q : Rat} (h : lT p = lT q) : p = q := by rw [← qT_lT p, h, qT_lT]
def qS (s : Sn) : Sq := (qT s.f0, qT s.f1)
def lS (s : Sq) : Sn := ⟨lT s.1, lT s.2⟩
theorem qS_lS (s : Sq) : qS (lS s) = s := Prod.ext (qT_lT _) (qT_lT _)
theorem map_lS : ∀ l : List Sq, (l.map lS).map qS = l
 | [] => rfl
 | a :: t => by rw [List.map_cons, List.map_cons, map_lS t, qS_lS]
def vS (s : Sn) : Bool := vT s.f0 && (vT s.f1 && !(decide (qT s.f1 < qT s.f0)))
theorem vS_is {s : Sn} (h : vS s = true) : vT s.f0 = true ∧ vT s.f1 = true ∧ qT s.f0 ≤ qT s.f1 := by
 unfold vS at h
 simp only [Bool.and_eq_true, Bool.not_eq_true', decide_eq_false_iff_not] at h
 exact ⟨h.1, h.2.1, Rat.not_lt.1 h.2.2⟩
def ins (a : Sq) : List Sq → List Sq
 | [] => [a]
 | x :: l => if a.1 ≤ x.1 then a :: x :: l else x :: ins a l
def srt : List Sq → List Sq
 | [] => []
 | a :: l => ins a (srt l)
theorem ins_mem {a s : Sq} : ∀ {l : List Sq}, s ∈ ins a l ↔ s = a ∨ s ∈ l
 | [] => by simp [ins]
 | x :: l => by
  rw [ins]
  split
  ·simp
  rw [List.mem_cons, ins_mem, List.mem_cons]
  constructor
  ·rintro (h | h | h) <;> simp [h]
  rintro (h | h | h) <;> simp [h]
theorem srt_mem {s : Sq} : ∀ {l : List Sq}, s ∈ srt l ↔ s ∈ l
 | [] => Iff.rfl
 | a :: l => by rw [srt, ins_mem, srt_mem, List.mem_cons]
theorem ins_od {a : Sq} (ha : a.1 < a.2) : ∀ {l : List Sq}, Od l → Od (ins a l)
 | [], _ => ⟨ha, by simp, trivial⟩
 | x :: l, h => by
  rw [ins]
  split
  ·rename_i hc
   refine ⟨ha, fun y hy => ?_, h⟩
   rcases List.mem_cons.1 hy with rfl | hy
   ·exact hc
   have := h.2.1 y hy
   grind
  rename_i hc
  refine ⟨h.1, fun y hy => ?_, ins_od ha h.2.2⟩
  rcases ins_mem.1 hy with rfl | hy
  ·grind
  exact h.2.1 y hy
def full (l : List Sq) : List Sq := l.filter (fun s => decide (s.1 < s.2))
theorem full_in {l : List Sq} {q : Rat} : inS (full l) q ↔ inS l q := by
 unfold inS full
 constructor
 ·rintro ⟨s, hs, h⟩
  exact ⟨s, (List.mem_filter.1 hs).1, h⟩
 rintro ⟨s, hs, h⟩
 refine ⟨s, List.mem_filter.2 ⟨hs, ?_⟩, h⟩
 rw [decide_eq_true_eq]
 grind
theorem srt_od : ∀ {l : List Sq}, (∀ s ∈ l, s.1 < s.2) → Od (srt l)
 | [], _ => trivial
 | a :: l, h => ins_od (h a (by simp)) (srt_od (fun s hs => h s (by simp [hs])))
theorem mem_in {l m : List Sq} (h : ∀ s, s ∈ l ↔ s ∈ m) (q : Rat) : inS l q ↔ inS m q := by
 unfold inS
 constructor
 ·rintro ⟨s, hs, k⟩
  exact ⟨s, (h s).1 hs, k⟩
 rintro ⟨s, hs, k⟩
 exact ⟨s, (h s).2 hs, k⟩
def cnl (l : List Sq) : List Sq := mrg (srt (full l))
theorem full_lt {l : List Sq} : ∀ s ∈ full l, s.1 < s.2 := fun s hs => by
 have := (List.mem_filter.1 hs).2
 simpa using this
theorem cnl_cn (l : List Sq) : Cn (cnl l) := mrg_cn (srt_od full_lt)
theorem cnl_in (l : List Sq) (q : Rat) : inS (cnl l) q ↔ inS l q := (mrg_in (srt_od full_lt) q).trans ((mem_in (fun s => srt_mem) q).trans full_in)
theorem cnl_of {l m : List Sq} (hc : Cn m) (h : ∀ q, inS m q ↔ inS l q) : m = cnl l := cn_uniq m (cnl l) hc (cnl_cn l) (fun q => (h q).trans (cnl_in l q).symm)
theorem cnl_sorted {l m : List Sq} (ho : Od m) (hm : ∀ s, s ∈ m ↔ s ∈ full l) : mrg m = cnl l :=
 cnl_of (mrg_cn ho) (fun q => (mrg_in ho q).trans ((mem_in hm q).trans full_in))
end Go.Proofs.YtekommcfpjonmaaGreat.Sx
namespace Go.Proofs.YtekommcfpjonmaaGreat.Sy
open RowKit Go YtekommcfpjonmaaGreatW.PrintWords YtekommcfpjonmaaGreatW.PrintLast YtekommcfpjonmaaGreatW.PrintMore Mn Rf E Sg Sx
def clnL (l : List Sn) : List Sn := (cnl (l.map qS)).map lS
def allV (l : List Sn) : Bool := l.all vS
def clnV (l : List Sn) : List Sn × Int := if allV l = true then (clnL l, 0) else ([], 4)
def tch (a b : Sn) : Sn × Bool := if qT a.f1 < qT b.f0 then (a, false) else (if qT a.f1 < qT b.f1 then ⟨a.f0, b.f1⟩ else a, true)
def jnS : Sn → List Sn → List Sn
 | a, [] => [a]
 | a, x :: r => if (tch a x).2 = true then jnS (tch a x).1 r else a :: jnS x r
def mrgS : List Sn → List Sn
 | [] => []
 | a :: r => jnS a r
theorem jnS_lS : ∀ (r : List Sq) (a : Sq), jnS (lS a) (r.map lS) = (jn a r).map lS
 | [], a => rfl
 | x :: r, a => by
  rw [List.map_cons, jnS, jn]
  unfold tch
  have e1 : qT (lS a).f1 = a.2 := qT_lT _
  have e2 : qT (lS x).f0 = x.1 := qT_lT _
  have e3 : qT (lS x).f1 = x.2 := qT_lT _
  rw [e1, e2, e3]
  by_cases h : a.2 < x.1
  ·rw [if_pos h, if_pos h, if_neg (show ¬ (false = true) by decide), jnS_lS r x]
   rfl
  rw [if_neg h, if_neg h, if_pos rfl]
  have e : (if a.2 < x.2 then (⟨(lS a).f0, (lS x).f1⟩ : Sn) else lS a) = lS (a.1, mxR a.2 x.2) := by
   unfold mxR lS
   split <;> rfl
  show jnS (if a.2 < x.2 then (⟨(lS a).f0, (lS x).f1⟩ : Sn) else lS a) (r.map lS) = _
  rw [e, jnS_lS r _]
theorem mrgS_lS (l : List Sq) : mrgS (l.map lS) = (mrg l).map lS := by
 cases l with
 | nil => rfl
 | cons a r => exact jnS_lS r a
def lowF (l : List Sn) : List Sn := (full (l.map qS)).map lS
theorem lowF_cons (s : Sn) (l : List Sn) : lowF (s :: l) = if qT s.f0 < qT s.f1 then lS (qS s) :: lowF l else lowF l := by
 unfold lowF full
 rw [List.map_cons, List.filter_cons]
 by_cases h : qT s.f0 < qT s.f1
 ·rw [if_pos (decide_eq_true (show (qS s).1 < (qS s).2 from h)), if_pos h]
  rfl
 rw [if_neg (show ¬ decide ((qS s).1 < (qS s).2) = true from fun hc => h (of_decide_eq_true hc)), if_neg h]
theorem mrgS_sorted {l m : List Sn} (hm : m.Perm (lowF l)) (ho : ∀ i j : Nat, i < j → ∀ x y, m[i]? = some x → m[j]? = some y → ¬ qT y.f0 < qT x.f0) : mrgS m = clnL l := by
 have e : m = (m.map qS).map lS := by
  have : ∀ s ∈ m, lS (qS s) = s := fun s hs => by
   obtain ⟨q, hq, rfl⟩ := List.mem_map.1 (show s ∈ (full (l.map qS)).map lS from hm.mem_iff.1 hs)
   rw [qS_lS]
  rw [List.map_map]
  conv => lhs; rw [← List.map_id m]
  exact List.map_congr_left (fun s hs => (this s hs).symm)
 have hmem : ∀ s, s ∈ m.map qS ↔ s ∈ full (l.map qS) := fun s => by
  constructor
  ·intro h
   obtain ⟨x, hx, rfl⟩ := List.mem_map.1 h
   obtain ⟨q, hq, rfl⟩ := List.mem_map.1 (show x ∈ (full (l.map qS)).map lS from hm.mem_iff.1 hx)
   rw [qS_lS]
   exact hq
  intro h
  refine List.mem_map.2 ⟨lS s, hm.mem_iff.2 (List.mem_map.2 ⟨s, h, rfl⟩), qS_lS s⟩
 have hod : ∀ (m : List Sn), (∀ s ∈ m, qT s.f0 < qT s.f1) → (∀ i j : Nat, i < j → ∀ x y, m[i]? = some x → m[j]? = some y → ¬ qT y.f0 < qT x.f0) → Od (m.map qS) := by
  intro m
  induction m with
  | nil => intro _ _; trivial
  | cons a t ih =>
   intro h1 h2
   refine ⟨h1 a (by simp), fun x hx => ?_, ih (fun s hs => h1 s (by simp [hs])) (fun i j hij x y hx hy => h2 (i + 1) (j + 1) (by omega) x y (by simpa using hx) (by simpa using hy))⟩
   obtain ⟨y, hy, rfl⟩ := List.mem_map.1 hx
   obtain ⟨j, hj, he⟩ := List.getElem_of_mem hy
   exact Rat.not_lt.1 (h2 0 (j + 1) (by omega) a y rfl (by simp [List.getElem?_eq_getElem hj, he]))
 have hf : ∀ s ∈ m, qT s.f0 < qT s.f1 := fun s hs => by
  have := (hmem (qS s)).1 (List.mem_map.2 ⟨s, hs, rfl⟩)
  exact full_lt _ this
 rw [e, mrgS_lS, cnl_sorted (hod m hf ho) hmem]
 rfl
end Go.Proofs.YtekommcfpjonmaaGreat.Sy
namespace Go.Proofs.YtekommcfpjonmaaGreat.Eb
open RowKit Go YtekommcfpjonmaaGreatW.PrintWords YtekommcfpjonmaaGreatW.PrintLast YtekommcfpjonmaaGreatW.PrintMore Ml Mn Nd Z P Nc Nb Qa Qb Ea E
theorem product_n (a b : Int) (w : World) (a0 : -9223372036854775808 ≤ a) (a1 : a ≤ 9223372036854775807) (b0 : -9223372036854775808 ≤ b) (b1 : b ≤ 9223372036854775807) :
  Calls Tryz.prog 81 #[.int .i64 a, .int .i64 b] w (NewP w (a * b) 4) := by
 have hA := aS (And.intro (And.intro a0 a1) (And.intro b0 b1))
 clear a0 a1 b0 b1
 go_enter Tryz.func81, Tryz.ntmps81
 go_wp2_with fail
 have hr := room_new w
 have hb1 : Below w.heap.size w (w.alloc (.cells #[.bool false, .slice none 0 0] 119)) := below_alloc (Below.refl _ w) _
 have s1 := hb1.size
 refine (newInt_n a _ hA.out.1.1 hA.out.1.2).mono ?_
 rintro e w2 ⟨g1, hg1, rfl, hb2, hN1⟩
 have H1 := aS (And.intro hr (And.intro hb1 (And.intro hb2 hN1)))
 clear hr hb1 hb2 hN1
 go_wp2_with fail
 refine (newInt_n b _ hA.out.2.1 hA.out.2.2).mono ?_
 rintro e w3 ⟨g2, hg2, rfl, hb3, hN2⟩
 have H2 := aS (And.intro hb3 hN2)
 clear hb3 hN2
 go_wp2_with fail
 have hlt := H1.out.1.lt
 refine (mul_n w.heap.size 0 g1 0 g2 0 a b 2 2 w3 ((H1.out.1.below H1.out.2.2.1).below H2.out.1) (H1.out.2.2.2.below H2.out.1) H2.out.2 (by decide)).mono ?_
 rintro e w4 ⟨rfl, hw, hN⟩
 have H3 := aS (And.intro hw hN)
 clear hw hN
 go_wp2_with fail
 go_ret
 have s2 := H1.out.2.1.size
 have s3 := H1.out.2.2.1.size
 have s4 := H2.out.1.size
 exact ⟨_, Nat.le_refl _, rfl, H1.out.2.1.trans ((H1.out.2.2.1.mono s2).trans ((H2.out.1.mono (by omega)).trans (H3.out.1.below (Nat.le_refl _) (by omega)))), H3.out.2⟩
end Go.Proofs.YtekommcfpjonmaaGreat.Eb
namespace Go.Proofs.YtekommcfpjonmaaGreat.Ec
open RowKit Go YtekommcfpjonmaaGreatW.PrintWords YtekommcfpjonmaaGreatW.PrintLast YtekommcfpjonmaaGreatW.PrintMore Ml Mn Nd Z P Nc Nb Qa Qb Ea Eb E
end Go.Proofs.YtekommcfpjonmaaGreat.Ec

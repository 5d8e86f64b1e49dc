/-
  Limbs divided: what the quotient and the rest come to, a clone of limbs, and the walk of num.divMag.
-/
import Derived.Test.YtpbhepdgamoiaaaNg
import Derived.Test.YtpbhepdgamoiaaaLz
import Derived.Lib.ItoaNum
import Derived.Lib.SliceRun
namespace Go.Proofs.Ytpbhepdgamoiaaa.Da
open Go.RowKit Go Go.Proofs.YtpbhepdgamoiaaaW.PrintWords Go.Proofs.YtpbhepdgamoiaaaW.PrintLast Go.Proofs.YtpbhepdgamoiaaaW.PrintMore Go.Proofs.Ytpbhepdgamoiaaa.Ml Go.Proofs.Ytpbhepdgamoiaaa.Mn Go.Proofs.Ytpbhepdgamoiaaa.Nd Go.Proofs.Ytpbhepdgamoiaaa.P Go.Proofs.Ytpbhepdgamoiaaa.Nc Go.Proofs.Ytpbhepdgamoiaaa.Nb Go.Proofs.Ytpbhepdgamoiaaa.Ns Go.Proofs.Ytpbhepdgamoiaaa.Nk Go.Proofs.Ytpbhepdgamoiaaa.Ng Go.Proofs.Ytpbhepdgamoiaaa.Lz
set_option linter.unusedVariables false
set_option linter.unusedSimpArgs false

def ClP (w : World) (l : List Int) (e : Ending) (w' : World) : Prop := ∃ v, e = .returned v ∧ Mag w' v l ∧ Below w.heap.size w w'
set_option maxHeartbeats 1000000 in
set_option maxRecDepth 100000 in
theorem clone_n (A : Option Addr) (c : Nat) (l : List Int) (w : World) (hc : l.length ≤ c) (h : Kd.C (Kd.int .u32) w A l.length l) (hn : l.length ≤ 1000000) :
    Calls Try.prog 163 #[.slice A l.length c] w (ClP w l) := by
  cases A with
  | none =>
    have hl : l = [] := by
      cases l with
      | nil => rfl
      | cons x l =>
        obtain ⟨ad, ha, _⟩ := h.2.2 (by simp)
        simp at ha
    subst hl
    have hnil := fun (wx : World) => Lib.run_eql_slice_nil (P := Try.prog) wx 84 157 none 0 c 0 0 Try.underlying84
    clear hn h hc
    have e0 : ([] : List Int).length = 0 := rfl
    rw [e0]
    clear e0
    go_enter Try.func163, Try.ntmps163
    go_wp2_with fail
    go_ret
    exact ⟨_, rfl, Mag.nil _, Below.refl _ _⟩
  | some ad =>
    have hnil := fun (wx : World) => Lib.run_eql_slice_nil (P := Try.prog) wx 84 157 (some ad) l.length c 0 0 Try.underlying84
    have HC := Aside0.mk h
    clear h
    go_enter Try.func163, Try.ntmps163
    go_wp2_with (first | ((with_reducible refine gate_dst (N := 5) rfl ?_); refine Kd.R_lit (Kd.int .u32) _ 157 ?hg (N := 5) ?hd (xs := ([] : List Int)) (inner := []) (ok := fun _ => True) (okp := fun _ => True) ?hr ?hp (fun _ hk => hk) trivial (Below.refl _ _) (Nat.le_refl _) (by simp) ?_; (case hd => rfl); (case hg => rfl); (case hr => first | (go_simp; done) | (go_simp; rfl)); (case hp => exact Reps.none _ _); intro v5 w3 ho4 hb hg_ hnew_; clear hg_ hnew_; have HO := Aside0.mk ho4; have HB := Aside0.mk hb; clear ho4 hb) | ((with_reducible refine gate_builtin (b := .append) (xs := #[.tmp 5, .tmp 6]) rfl ?_); at_builtin; refine Kd.R_append_row (Value.int .u32) (0 : Int) (w0 := w) w.heap.size rfl (.tmp 5) (.tmp 6) 84 157 (.int .u32 0) 4 rfl Try.underlying84 info157 rfl (by decide) v5 [] l (some ad) l.length c (fun _ => True) rfl rfl (fun _ _ => trivial) HO.out (Kd.C_below HC.out HB.out) HB.out HB.out.size (by simp; omega) ?_; intro v6 w4 ho5 hb2 hg2 hn2; have HO2 := Aside0.mk ho5; have HB2 := Aside0.mk hb2; clear ho5 hb2 hg2 hn2))
    go_ret
    exact ⟨v6, rfl, Mag.ofR HO2.out, HB2.out⟩

/-! ### division by one limb -/
structure QrI (a : List Int) (b0 : Int) (m : Nat) (r : Int) (quo : List Int) : Prop where
  r0 : 0 ≤ r
  r1 : r < b0
  dg : Dg 4294967296 quo
  len : quo.length = a.length
  val : dv 4294967296 (a.drop m) = dv 4294967296 (quo.drop m) * b0 + r
theorem QrI.start (a : List Int) (b0 : Int) (hb : 0 < b0) : QrI a b0 a.length 0 (List.replicate a.length 0) :=
  ⟨by omega, hb, Dg.replicate (by decide) _, by simp, by simp [List.drop_of_length_le, dv]⟩
theorem drop_set {l : List Int} {m : Nat} {v : Int} : (l.set m v).drop (m + 1) = l.drop (m + 1) := by
  rw [List.drop_set_of_lt (by omega)]
theorem QrI.step {a quo : List Int} {b0 r : Int} {m : Nat} (h : QrI a b0 (m + 1) r quo) (ha : Dg 4294967296 a) (hm : m < a.length) (hb : b0 < 4294967296) :
    QrI a b0 m ((r * 4294967296 + a.getD m 0) % b0) (quo.set m ((r * 4294967296 + a.getD m 0) / b0 % 4294967296)) := by
  have h1 := ha.getD (by decide) m
  have r0 := h.r0
  have r1 := h.r1
  have hq0 : 0 ≤ (r * 4294967296 + a.getD m 0) / b0 := Int.ediv_nonneg (by omega) (by omega)
  have hq1 : (r * 4294967296 + a.getD m 0) / b0 < 4294967296 := by
    refine Int.ediv_lt_of_lt_mul (by omega) ?_
    have : (r + 1) * 4294967296 ≤ b0 * 4294967296 := Int.mul_le_mul_of_nonneg_right (by omega) (by decide)
    rw [Int.mul_comm 4294967296 b0]
    omega
  rw [Int.emod_eq_of_lt hq0 hq1]
  refine ⟨Int.emod_nonneg _ (by omega), Int.emod_lt_of_pos _ (by omega), h.dg.set _ hq0 hq1, by simpa using h.len, ?_⟩
  rw [dv_drop _ a m hm, dv_drop _ (quo.set m _) m (by simp; have := h.len; omega), drop_set, getD_set_self (by have := h.len; omega), h.val]
  have h2 := Int.ediv_mul_add_emod (r * 4294967296 + a.getD m 0) b0
  generalize (r * 4294967296 + a.getD m 0) / b0 = q at *
  generalize (r * 4294967296 + a.getD m 0) % b0 = s at *
  grind

def DivP (w : World) (la lb : List Int) (e : Ending) (w' : World) : Prop := ∃ v0 v1 q r, e = .returned (.tuple #[v0, v1]) ∧ Mag w' v0 q ∧ Mag w' v1 r ∧ Cn 4294967296 q ∧ Cn 4294967296 r ∧ q.length ≤ la.length ∧ r.length ≤ lb.length ∧ dv 4294967296 la = dv 4294967296 q * dv 4294967296 lb + dv 4294967296 r ∧ dv 4294967296 r < dv 4294967296 lb ∧ Below w.heap.size w w'

set_option maxHeartbeats 8000000 in
set_option maxRecDepth 100000 in
theorem divMag_a (A0 : Option Addr) (c0 : Nat) (la : List Int) (A1 : Option Addr) (c1 : Nat) (lb : List Int) (w : World) (h0 : la.length ≤ c0) (r0 : Kd.C (Kd.int .u32) w A0 la.length la) (h1 : lb.length ≤ c1) (r1 : Kd.C (Kd.int .u32) w A1 lb.length lb) (ha : Cn 4294967296 la) (hb : Cn 4294967296 lb) (hn : la.length ≤ 1000) (hm : lb.length ≤ 1000) (hlt : dv 4294967296 la < dv 4294967296 lb) :
    Calls Try.prog 162 #[.slice A0 la.length c0, .slice A1 lb.length c1] w (DivP w la lb) := by
  have HR := Aside0.mk (And.intro r0 r1)
  have HC := Aside0.mk (And.intro ha hb)
  have HL := Aside0.mk hlt
  clear r0 r1 ha hb hlt
  go_enter Try.func162, Try.ntmps162
  go_wp2_with fail
  refine (cmpMag_n A0 c0 la A1 c1 lb w h0 HR.out.1 h1 HR.out.2 HC.out.1 HC.out.2 (by omega) (by omega)).mono ?_
  rintro e w1 ⟨c, rfl, hs, hb1⟩
  have hc : c < 0 := by have := HL.out; unfold Sg at hs; omega
  clear hs
  go_wp2_with fail
  refine (clone_n A0 c0 la w1 h0 (Kd.C_below HR.out.1 hb1) (by omega)).mono ?_
  rintro e w2 ⟨v, rfl, hM, hb2⟩
  go_wp2_with fail
  go_ret2
  refine ⟨_, _, [], la, rfl, Mag.nil _, hM, Cn.nil _, HC.out.1, by simp, ?_, by simp [dv], HL.out, hb1.trans (hb2.mono hb1.size)⟩
  rcases Nat.lt_or_ge lb.length la.length with h | h
  · have := dv_len (by decide) HC.out.2.dg HC.out.1 h
    have := HL.out
    omega
  · exact h

set_option maxHeartbeats 8000000 in
set_option maxRecDepth 100000 in
theorem divMag_b (A0 : Option Addr) (c0 : Nat) (la : List Int) (A1 : Option Addr) (c1 : Nat) (x0 : Int) (w : World) (h0 : la.length ≤ c0) (r0 : Kd.C (Kd.int .u32) w A0 la.length la) (h1 : 1 ≤ c1) (r1 : Kd.C (Kd.int .u32) w A1 1 [x0]) (ha : Cn 4294967296 la) (hb : Cn 4294967296 [x0]) (hn : la.length ≤ 1000) (hle : dv 4294967296 [x0] ≤ dv 4294967296 la) :
    Calls Try.prog 162 #[.slice A0 la.length c0, .slice A1 1 c1] w (DivP w la [x0]) := by
  have hx := hb.dg x0 (by simp)
  have hx2 : x0 ≠ 0 := by simpa using hb.top (by simp)
  obtain ⟨hx0, hx1⟩ := hx
  have hx3 : 1 ≤ x0 := by omega
  have HR := Aside0.mk (And.intro r0 r1)
  have HC := Aside0.mk (And.intro ha hb)
  have HL := Aside0.mk hle
  have hlen : 0 ≤ (la.length : Int) := by omega
  clear r0 r1 ha hb hle hx2
  go_enter Try.func162, Try.ntmps162
  go_wp2_with fail
  refine (cmpMag_n A0 c0 la A1 c1 [x0] w h0 HR.out.1 h1 HR.out.2 HC.out.1 HC.out.2 (by omega) (by simp)).mono ?_
  rintro e w1 ⟨c, rfl, hs, hb1⟩
  have hc : 0 ≤ c := by have := HL.out; unfold Sg at hs; omega
  have HB1 := Aside0.mk hb1
  clear hs hb1
  go_wp2_with ((with_reducible refine gate_dst (N := 25) rfl ?_); refine Kd.R_make (Kd.int .u32) _ 157 rfl (N := 25) rfl 84 _ _ rfl (la.length : Int) rfl rfl Try.underlying84 (.int .u32 0) 4 info157 rfl (by decide) (by omega) 0 (ok := fun _ => True) (okp := fun _ => True) rfl (fun _ hk => hk) trivial hlen (by omega) (Below.refl _ _) (Nat.le_refl _) ?_; intro v w5 ho hb hg_ hnew_; clear hg_ hnew_; have HO := Aside0.mk ho; have HB := Aside0.mk hb; clear ho hb)
  have hpos : 0 < la.length := by
    rcases Nat.eq_zero_or_pos la.length with h | h
    · have := HL.out
      rw [List.eq_nil_of_length_eq_zero h] at this
      simp [dv] at this
      omega
    · exact h
  obtain ⟨go, co, eo, gb, _, _⟩ := Kd.R_form HO.out (by simpa using hpos)
  have eo2 : v = .slice (some ⟨go, 0, none⟩) la.length co := by rw [eo]; simp
  have HO2 := Aside0.mk (show Kd.R (Kd.int .u32) 157 w5 0 (fun _ => True) (.slice (some ⟨go, 0, none⟩) la.length co) (List.replicate la.length 0) by have := Kd.R_lower HO.out (Nat.zero_le _); rw [eo2] at this; simpa using this)
  have HB2 := Aside0.mk (show Below w.heap.size w w5 from HB1.out.trans (HB.out.mono HB1.out.size))
  have gb2 : w.heap.size ≤ go := Nat.le_trans HB1.out.size gb
  subst eo2
  clear HO eo HB HB1
  go_loopg [6, 7] la.length (fun kq v6 v7 w' => ∃ (r z : Int) (quo : List Int), v6 = .int .u64 r ∧ v7 = .int .i64 z ∧ Aside0 (z = (kq : Int) - 1 ∧ kq ≤ la.length) ∧ Aside0 (QrI la x0 kq r quo) ∧ Aside0 (Kd.R (Kd.int .u32) 157 w' 0 (fun _ => True) (.slice (some ⟨go, 0, none⟩) la.length co) quo) ∧ Aside0 (Below w.heap.size w w'))
  case atStart => exact ⟨0, _, _, rfl, rfl, ⟨rfl, Nat.le_refl _⟩, ⟨QrI.start la x0 (by omega)⟩, HO2, HB2⟩
  case round =>
    clear HO2 HB2
    obtain ⟨r, z, quo, rfl, rfl, HK, HI, HO, HB⟩ := hrel
    have hr0 := HI.out.r0
    have hr1 := HI.out.r1
    cases gk with
    | zero =>
      obtain rfl : z = -1 := by have := HK.out.1; omega
      have hb9 : decide ((0 : Int) ≤ -1) = false := by decide
      go_wp2_with fail
      refine (trim_n _ quo _ _ _ HO.out HI.out.dg (by rw [HI.out.len]; omega)).mono ?_
      rintro e w6 ⟨v0, q, rfl, hM0, hc0, hv0, hl0, hb0⟩
      have HQ := Aside0.mk (And.intro hM0 (And.intro hc0 (And.intro hv0 (And.intro hl0 hb0))))
      clear hM0 hc0 hv0 hl0 hb0
      go_wp2_with fail
      obtain ⟨r2, hf, hcf, hvf, hlf⟩ := magOf_f r hr0 (by omega)
      refine (num_magOf.calls 3 r r2 w6 hf).mono ?_
      rintro e w7 ⟨v1, rfl, hV, hb7⟩
      have HV := Aside0.mk (And.intro hV (And.intro hcf (And.intro hvf hb7)))
      clear hV hf hcf hvf hlf hb7
      go_wp2_with fail
      go_ret2
      obtain ⟨m0, c0', e0, l0, b0'⟩ := HQ.out
      obtain ⟨m1, c1', e1, b1'⟩ := HV.out
      have hval := HI.out.val
      rw [List.drop_zero, List.drop_zero] at hval
      refine ⟨_, _, q, r2, rfl, m0.below b1', Mag.of m1, c0', c1', by rw [← HI.out.len]; exact l0, ?_, ?_, ?_, HB.out.trans ((b0'.mono HB.out.size).trans (b1'.mono (HB.out.trans (b0'.mono HB.out.size)).size))⟩
      · refine Nat.le_of_not_lt fun h => ?_
        have h2 := dv_len (by decide) HC.out.2.dg c1' h
        rw [e1] at h2
        simp [dv] at h2
        omega
      · rw [hval, e0, e1]
        simp [dv]
      · rw [e1]
        simp [dv]
        omega
    | succ k1 =>
      obtain rfl : z = (k1 : Int) := by have := HK.out.1; omega
      have hk : k1 < la.length := by have := HK.out.2; omega
      obtain ⟨ada, ea, hac⟩ := mag_cell HR.out.1 HB.out k1 hk
      obtain ⟨adb, eb, hbc⟩ := mag_cell HR.out.2 HB.out 0 (by omega)
      obtain ⟨hy1, hz1⟩ := own_cell HO.out k1 hk
      cases ea
      cases eb
      have hst := HI.out.step HC.out.1.dg hk (by omega)
      have hda := HC.out.1.dg.getD (by decide) k1
      generalize la.getD k1 0 = a at hac hst hda
      obtain ⟨hda0, hda1⟩ := hda
      have hor : bits BinOp.or IntKind.u64 (r * 4294967296) a = r * 4294967296 + a := or_high _ _ 32 (by omega) (by omega) (by omega) hda0 (by omega) (by omega)
      have HST := Aside0.mk hst
      simp only [Addr.add, if_true, List.getD_cons_zero] at hbc
      have hadb : adb.block ≠ go := by
        obtain ⟨ad, e, hc⟩ := Kd.at_int HR.out.2 0 (by omega) (by omega)
        cases e
        have := World.block_lt_of_cell? w _ hc
        simp only [Int.toNat_zero, Addr.add, if_true] at this
        omega
      have hbc3 : ∀ u, (wr.setCell ⟨go, k1, none⟩ u).cell? adb = some (.int .u32 x0) := fun u => (World.cell?_of_block (w := wr) (Below.heap_setCell wr ⟨go, k1, none⟩ u adb.block hadb)).trans hbc
      clear hst hadb
      go_wp2_with fail
      go_roundg k1
      case measure => omega
      case rel =>
        refine ⟨_, _, _, rfl, rfl, ⟨by have := HK.out; omega⟩, HST, ⟨own_put HO.out k1 _⟩, ⟨HB.out.setCell gb2 _⟩⟩
end Go.Proofs.Ytpbhepdgamoiaaa.Da

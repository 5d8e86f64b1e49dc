/-
  Limbs moved up by some bits: the walk of num.shift.
-/
import Derived.Test.YtpbhepdgamoiaaaNb
import Derived.Outline
namespace Go.Proofs.Ytpbhepdgamoiaaa.Ns
open Go.RowKit Go Go.Proofs.YtpbhepdgamoiaaaW.PrintWords Go.Proofs.YtpbhepdgamoiaaaW.PrintLast Go.Proofs.YtpbhepdgamoiaaaW.PrintMore Go.Proofs.Ytpbhepdgamoiaaa.Ml Go.Proofs.Ytpbhepdgamoiaaa.Mn Go.Proofs.Ytpbhepdgamoiaaa.Nd Go.Proofs.Ytpbhepdgamoiaaa.P Go.Proofs.Ytpbhepdgamoiaaa.Nc
set_option linter.unusedVariables false
set_option linter.unusedSimpArgs false

theorem wraps_u64 (n : Int) (h0 : 0 ≤ n) (h1 : n < 2 ^ 64) : IntKind.u64.wrap n = n := by
  rw [u64m]
  omega
theorem or_high (x y : Int) (i : Nat) (hx0 : 0 ≤ x) (hx : x % 2 ^ i = 0) (hx1 : x < 18446744073709551616) (hy0 : 0 ≤ y) (hy : y < 2 ^ i) (hy1 : y < 18446744073709551616) : bits .or .u64 x y = x + y :=
  bits_join .u64 64 (by decide) wraps_u64 i x y hx0 hx (by omega) hy0 hy (by omega)
theorem or_low (c y : Int) (i : Nat) (hx0 : 0 ≤ y) (hx : y % 2 ^ i = 0) (hx1 : y < 18446744073709551616) (hy0 : 0 ≤ c) (hy : c < 2 ^ i) (hy1 : c < 18446744073709551616) : bits .or .u64 c y = c + y := by
  have h := or_high y c i hx0 hx hx1 hy0 hy hy1
  obtain ⟨a, rfl⟩ := Int.eq_ofNat_of_zero_le hx0
  obtain ⟨b, rfl⟩ := Int.eq_ofNat_of_zero_le hy0
  have ha : a < 2 ^ 64 := by omega
  have hb : b < 2 ^ 64 := by omega
  rw [(bits_nat .u64 64 (by decide) wraps_u64 a b ha hb).2] at h
  rw [(bits_nat .u64 64 (by decide) wraps_u64 b a hb ha).2, Nat.or_comm, h]
  omega
structure ShI (x : List Int) (p : Int) (i : Nat) (c : Int) (out : List Int) : Prop where
  c0 : 0 ≤ c
  c1 : c < p
  dg : Dg 4294967296 out
  len : out.length = x.length + 1
  val : dv 4294967296 out + c * pw 4294967296 i = dv 4294967296 (x.take i) * p
  zero : ∀ m, i ≤ m → out.getD m 0 = 0
theorem ShI.start (x : List Int) (p : Int) (hp : 0 < p) : ShI x p 0 0 (List.replicate (x.length + 1) 0) :=
  ⟨by omega, hp, Dg.replicate (by decide) _, by simp, by rw [dv_replicate]; simp [dv], fun m _ => by
    rw [List.getD_eq_getElem?_getD, List.getElem?_replicate]
    split <;> rfl⟩
theorem sh_num {c x p : Int} (c0 : 0 ≤ c) (c1 : c < p) (hp : p ≤ 4294967296) (x0 : 0 ≤ x) (x1 : x < 4294967296) : 0 ≤ c + x * p ∧ c + x * p < p * 4294967296 := by
  have h1 : 0 ≤ x * p := Int.mul_nonneg x0 (by omega)
  have h2 : x * p ≤ 4294967295 * p := Int.mul_le_mul_of_nonneg_right (by omega) (by omega)
  omega
theorem ShI.step {x : List Int} {p : Int} {i : Nat} {c : Int} {out : List Int} (h : ShI x p i c out) (hx : Dg 4294967296 x) (hp : p ≤ 4294967296) (hi : i < x.length) :
    ShI x p (i + 1) ((c + x.getD i 0 * p) / 4294967296) (out.set i ((c + x.getD i 0 * p) % 4294967296)) := by
  have h1 := hx.getD (by decide) i
  have h3 := h.c0
  have h4 := h.c1
  have h2 := sh_num h3 h4 hp h1.1 h1.2
  obtain ⟨s, hs⟩ : ∃ s, s = c + x.getD i 0 * p := ⟨_, rfl⟩
  rw [← hs] at h2 ⊢
  refine ⟨by omega, by omega, h.dg.set _ (by omega) (by omega), by simpa using h.len, ?_, fun m hm => by rw [getD_set (by omega)]; exact h.zero m (by omega)⟩
  have h5 := h.val
  rw [dv_set _ _ _ _ (by have := h.len; omega), h.zero i (Nat.le_refl _), dv_take_succ', pw_succ]
  have h6 : s % 4294967296 = s - 4294967296 * (s / 4294967296) := by omega
  rw [h6]
  generalize s / 4294967296 = q
  rw [hs]
  grind
theorem ShI.done {x : List Int} {p : Int} {c : Int} {out : List Int} (h : ShI x p x.length c out) (hp : p ≤ 4294967296) : Dg 4294967296 (out.set x.length c) ∧ dv 4294967296 (out.set x.length c) = dv 4294967296 x * p ∧ (out.set x.length c).length = x.length + 1 ∧ (out.set x.length c).getD x.length 0 < p := by
  have h1 := h.val
  have h3 := h.c0
  have h4 := h.c1
  rw [List.take_of_length_le (Nat.le_refl _)] at h1
  refine ⟨h.dg.set _ (by omega) (by omega), ?_, by simpa using h.len, ?_⟩
  · rw [dv_set _ _ _ _ (by have := h.len; omega), h.zero _ (Nat.le_refl _)]
    rw [← h1]
    grind
  · rw [getD_set_self (by have := h.len; omega)]
    exact h4

set_option maxHeartbeats 4000000 in
set_option maxRecDepth 100000 in
theorem shift_n (Ax : Option Addr) (cx : Nat) (x : List Int) (b : Nat) (w : World) (hcx : x.length ≤ cx) (HX : Kd.C (Kd.int .u32) w Ax x.length x) (hd : Dg 4294967296 x) (hn : x.length ≤ 1000000) (hb : b ≤ 31) :
    Calls Try.prog 166 #[.slice Ax x.length cx, .int .i64 (b : Int)] w fun e w' => ∃ g c r, w.heap.size ≤ g ∧ e = .returned (.slice (some ⟨g, 0, none⟩) (x.length + 1) c) ∧ Kd.R (Kd.int .u32) 157 w' w.heap.size (fun _ => True) (.slice (some ⟨g, 0, none⟩) (x.length + 1) c) r ∧ Dg 4294967296 r ∧ r.length = x.length + 1 ∧ dv 4294967296 r = dv 4294967296 x * 2 ^ b ∧ r.getD x.length 0 < 2 ^ b ∧ Below w.heap.size w w' := by
  have hp0 : (0 : Int) < 2 ^ b := Int.pow_pos (by decide)
  have hp1 : (2 : Int) ^ b ≤ 2147483648 := by
    have : b = 0 ∨ b = 1 ∨ b = 2 ∨ b = 3 ∨ b = 4 ∨ b = 5 ∨ b = 6 ∨ b = 7 ∨ b = 8 ∨ b = 9 ∨ b = 10 ∨ b = 11 ∨ b = 12 ∨ b = 13 ∨ b = 14 ∨ b = 15 ∨ b = 16 ∨ b = 17 ∨ b = 18 ∨ b = 19 ∨ b = 20 ∨ b = 21 ∨ b = 22 ∨ b = 23 ∨ b = 24 ∨ b = 25 ∨ b = 26 ∨ b = 27 ∨ b = 28 ∨ b = 29 ∨ b = 30 ∨ b = 31 := by omega
    rcases this with h | h | h | h | h | h | h | h | h | h | h | h | h | h | h | h | h | h | h | h | h | h | h | h | h | h | h | h | h | h | h | h <;> subst h <;> decide
  obtain ⟨p, hp⟩ : ∃ p : Int, p = 2 ^ b := ⟨_, rfl⟩
  rw [← hp] at hp0 hp1 ⊢
  have HP := Aside0.mk hp
  have HXa := Aside0.mk HX
  have HD := Aside0.mk hd
  clear hp HX hd
  have hlen : 0 ≤ (x.length : Int) + 1 := by omega
  go_enter Try.func166, Try.ntmps166
  go_wp2_with ((with_reducible refine gate_dst (N := 12) rfl ?_); refine Kd.R_make (Kd.int .u32) _ 157 rfl (N := 12) rfl 84 _ _ rfl ((x.length : Int) + 1) rfl rfl Try.underlying84 (.int .u32 0) 4 info157 rfl (by decide) (by omega) 0 (ok := fun _ => True) (okp := fun _ => True) rfl (fun _ hk => hk) trivial hlen (by omega) (Below.refl _ _) (Nat.le_refl _) ?_; intro v w5 ho hb hg_ hnew_; clear hg_ hnew_; have HO := Aside0.mk ho; have HB := Aside0.mk hb; clear ho hb)
  obtain ⟨go, co, eo, gb, _, _⟩ := Kd.R_form HO.out (by simp)
  have eo2 : v = .slice (some ⟨go, 0, none⟩) (x.length + 1) co := by rw [eo]; simp
  have HO2 := Aside0.mk (show ∃ out, ShI x p 0 0 out ∧ Kd.R (Kd.int .u32) 157 w5 w.heap.size (fun _ => True) (.slice (some ⟨go, 0, none⟩) (x.length + 1) co) out from ⟨_, ShI.start x p hp0, by have := HO.out; rw [eo2] at this; simpa using this⟩)
  subst eo2
  clear HO eo
  go_loopg [6, 15] x.length (fun kq v6 v15 w' => ∃ (i : Nat) (c : Int) (out : List Int), v6 = .int .u64 c ∧ v15 = .int .i64 (i : Int) ∧ Aside0 (i + kq = x.length) ∧ Aside0 (ShI x p i c out) ∧ Aside0 (Kd.R (Kd.int .u32) 157 w' w.heap.size (fun _ => True) (.slice (some ⟨go, 0, none⟩) (x.length + 1) co) out) ∧ Aside0 (Below w.heap.size w w'))
  case atStart =>
    obtain ⟨out, h1, h2⟩ := HO2.out
    exact ⟨0, 0, out, rfl, rfl, ⟨by omega⟩, ⟨h1⟩, ⟨h2⟩, HB⟩
  case round =>
    clear HO2 HB
    obtain ⟨i, c, out, rfl, rfl, HK, HI, HO, HB⟩ := hrel
    cases gk with
    | zero =>
      have hi : i = x.length := HK.out
      have hb0 : decide (i < x.length) = false := decide_eq_false (by omega)
      obtain ⟨hy1, hz1⟩ := own_cell HO.out x.length (by omega)
      have hc0 := HI.out.c0
      have hc1 := HI.out.c1
      have HI2 := Aside0.mk hi
      have HF := Aside0.mk ((show ShI x p x.length c out from HI2.out ▸ HI.out).done (by omega))
      clear hi
      go_wp2_with fail
      refine bodyPost_ret (v := .slice (some ⟨go, 0, none⟩) (x.length + 1) co) (by simp [results, Try.results166, go_sem]) rfl ?_
      exact ⟨go, co, out.set x.length c, gb, rfl, own_put HO.out x.length c, HF.out.1, HF.out.2.2.1, HF.out.2.1, HF.out.2.2.2, HB.out.setCell gb _⟩
    | succ k1 =>
      have hi : i < x.length := by have := HK.out; omega
      have hb0 : decide (i < x.length) = true := decide_eq_true hi
      obtain ⟨adx, ex, hxc⟩ := mag_cell HXa.out HB.out i hi
      obtain ⟨hy1, hz1⟩ := own_cell HO.out i (by omega)
      have hdx := HD.out.getD (by decide) i
      have hc0 := HI.out.c0
      have hc1 := HI.out.c1
      cases ex
      have hst := HI.out.step HD.out (by omega) hi
      generalize hxi : x.getD i 0 = xi at hxc hdx hst
      have HT := Aside0.mk hst
      obtain ⟨hdx0, hdx1⟩ := hdx
      clear hst hxi
      have hbit : bits BinOp.or IntKind.u64 c (IntKind.u64.wrap (xi * 2 ^ b)) = c + xi * p := by
        have h2 := sh_num hc0 hc1 (by omega) hdx0 hdx1
        have h3 : p * 4294967296 ≤ 2147483648 * 4294967296 := Int.mul_le_mul_of_nonneg_right hp1 (by decide)
        have h4 : 0 ≤ xi * p := Int.mul_nonneg hdx0 (by omega)
        rw [← HP.out, u64 (x := xi * p) h4 (by omega)]
        refine or_low c (xi * p) b h4 ?_ (by omega) hc0 (by rw [← HP.out]; exact hc1) (by omega)
        rw [← HP.out]
        exact Int.mul_emod_left _ _
      have HBI := Aside0.mk hbit
      clear hbit
      go_wp2_with fail
      go_roundg k1
      case measure => omega
      case rel =>
        rw [← HBI.out] at HT
        exact ⟨i + 1, _, _, rfl, by simp, ⟨by have := HK.out; omega⟩, HT, ⟨own_put HO.out i _⟩, ⟨HB.out.setCell gb _⟩⟩
theorem shift_m (Ax : Option Addr) (cx : Nat) (x : List Int) (m : Nat) (hm : x.length = m) (b : Nat) (w : World) (hcx : m ≤ cx) (HX : Kd.C (Kd.int .u32) w Ax m x) (hd : Dg 4294967296 x) (hn : m ≤ 1000000) (hb : b ≤ 31) :
    Calls Try.prog 166 #[.slice Ax m cx, .int .i64 (b : Int)] w fun e w' => ∃ g c r, w.heap.size ≤ g ∧ e = .returned (.slice (some ⟨g, 0, none⟩) (m + 1) c) ∧ Kd.R (Kd.int .u32) 157 w' w.heap.size (fun _ => True) (.slice (some ⟨g, 0, none⟩) (m + 1) c) r ∧ Dg 4294967296 r ∧ r.length = m + 1 ∧ dv 4294967296 r = dv 4294967296 x * 2 ^ b ∧ r.getD m 0 < 2 ^ b ∧ Below w.heap.size w w' := by
  subst hm
  exact shift_n Ax cx x b w hcx HX hd hn hb
end Go.Proofs.Ytpbhepdgamoiaaa.Ns

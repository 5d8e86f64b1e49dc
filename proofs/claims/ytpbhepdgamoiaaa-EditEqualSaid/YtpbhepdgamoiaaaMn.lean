/-
  Plain: what the printed functions over limbs (base 2^32) come to, as numbers.
-/
import Derived.Test.YtpbhepdgamoiaaaMl
import Derived.Test.YtpbhepdgamoiaaaPx
namespace Go.Proofs.Ytpbhepdgamoiaaa.Mn
open Go.Proofs.YtpbhepdgamoiaaaW.PrintWords Go.Proofs.Ytpbhepdgamoiaaa.Ml Go.Proofs.Ytpbhepdgamoiaaa.P
open Go.RowKit (wrap64)
set_option linter.unusedVariables false
set_option linter.unusedSimpArgs false
theorem w64 {x : Int} (h0 : -9223372036854775808 ≤ x) (h1 : x ≤ 9223372036854775807) : wrap64 x = x := by
  unfold wrap64; omega
theorem u64 {x : Int} (h0 : 0 ≤ x) (h1 : x < 18446744073709551616) : IntKind.u64.wrap x = x := by
  show x % 18446744073709551616 = x
  exact Int.emod_eq_of_lt h0 h1
theorem u64m (x : Int) : IntKind.u64.wrap x = x % 18446744073709551616 := rfl
theorem rd_nat (l : List Int) (i : Nat) : rd l (i : Int) = l.getD i 0 := by simp [rd]

theorem trim_l : ∀ (n : Nat) (l : List Int), l.length = n → Dg 4294967296 l → n ≤ 1099511627776 → ∀ k, n < k → ∃ r, num_trim.l0 k l = some r ∧ Cn 4294967296 r ∧ dv 4294967296 r = dv 4294967296 l ∧ r.length ≤ n := by
  intro n
  induction n with
  | zero =>
    intro l hl hd _ k hk
    obtain ⟨k, rfl⟩ : ∃ m, k = m + 1 := ⟨k - 1, by omega⟩
    have e : l = [] := List.eq_nil_of_length_eq_zero hl
    subst e
    exact ⟨[], by simp only [num_trim.l0]; rw [if_neg (by simp)], Cn.nil 4294967296, rfl, by simp⟩
  | succ n ih =>
    intro l hl hd hn k hk
    obtain ⟨k, rfl⟩ : ∃ m, k = m + 1 := ⟨k - 1, by omega⟩
    have e1 : wrap64 ((l.length : Int) - 1) = (n : Int) := by rw [w64 (by omega) (by omega)]; omega
    simp only [num_trim.l0, e1, rd_nat, Int.toNat_natCast]
    rw [if_pos (by omega), if_pos (by omega), if_pos (by omega)]
    by_cases h0 : l.getD n 0 = 0
    · rw [if_pos h0, if_pos (by omega)]
      obtain ⟨r, h1, h2, h3, h4⟩ := ih (l.take n) (by simp; omega) (hd.take n) (by omega) k (by omega)
      have h5 := dv_take_succ 4294967296 l n (by omega)
      rw [List.take_of_length_le (by omega), h0] at h5
      exact ⟨r, h1, h2, by rw [h3, h5]; omega, by omega⟩
    · rw [if_neg h0]
      exact ⟨l, rfl, ⟨hd, top_of_getD (by rw [hl]; exact h0)⟩, rfl, by omega⟩
theorem trim_f (l : List Int) (hd : Dg 4294967296 l) (hn : l.length ≤ 1099511627776) (k : Nat) (hk : l.length < k) : ∃ r, num_trim.f k l = some r ∧ Cn 4294967296 r ∧ dv 4294967296 r = dv 4294967296 l ∧ r.length ≤ l.length :=
  trim_l l.length l rfl hd hn k hk

theorem magOf_f (v : Int) (h0 : 0 ≤ v) (h1 : v < 18446744073709551616) : ∃ r, num_magOf.f 3 v = some r ∧ Cn 4294967296 r ∧ dv 4294967296 r = v ∧ r.length ≤ 2 := by
  have hd : Dg 4294967296 [v % 4294967296, (v / 4294967296) % 4294967296] := by
    refine Dg.cons ?_ ?_ (Dg.cons ?_ ?_ (Dg.nil 4294967296)) <;> omega
  obtain ⟨r, h2, h3, h4, h5⟩ := trim_f _ hd (by simp) 3 (by simp)
  refine ⟨r, ?_, h3, ?_, by simpa using h5⟩
  · unfold num_magOf.f
    rw [h2]
    rfl
  · rw [h4]
    simp only [dv]
    omega

/-- Comparison: the sign of what the function answers is the difference's. -/
def Sg (c a b : Int) : Prop := (c < 0 ↔ a < b) ∧ (c = 0 ↔ a = b) ∧ (0 < c ↔ b < a)
theorem cmp_l (a b : List Int) (ha : Dg 4294967296 a) (hb : Dg 4294967296 b) (hl : a.length = b.length) (hn : a.length ≤ 1099511627776) : ∀ (i : Nat), i ≤ a.length → dv 4294967296 (a.drop i) = dv 4294967296 (b.drop i) → ∀ k, i < k →
    ∃ c, num_cmpMag.l0 k a b ((i : Int) - 1) = some c ∧ Sg c (dv 4294967296 a) (dv 4294967296 b) ∧ -1 ≤ c ∧ c ≤ 1 := by
  intro i
  induction i with
  | zero =>
    intro _ hs k hk
    obtain ⟨k, rfl⟩ : ∃ m, k = m + 1 := ⟨k - 1, by omega⟩
    refine ⟨0, ?_, ?_, by omega, by omega⟩
    · simp only [num_cmpMag.l0]
      rw [if_neg (by omega)]
    · simp only [List.drop_zero] at hs
      unfold Sg
      omega
  | succ i ih =>
    intro hi hs k hk
    obtain ⟨k, rfl⟩ : ∃ m, k = m + 1 := ⟨k - 1, by omega⟩
    have e1 : (((i + 1 : Nat) : Int) - 1) = (i : Int) := by omega
    have e2 : wrap64 ((i : Int) - 1) = (i : Int) - 1 := w64 (by omega) (by omega)
    rw [e1]
    simp only [num_cmpMag.l0, rd_nat, e2]
    rw [if_pos (by omega), if_pos (by omega), if_pos (by omega), if_pos (by omega)]
    have e3 := dv_drop 4294967296 a i (by omega)
    have e4 := dv_drop 4294967296 b i (by omega)
    by_cases h0 : a.getD i 0 = b.getD i 0
    · rw [if_pos h0]
      exact ih (by omega) (by rw [e3, e4, hs, h0]) k (by omega)
    · rw [if_neg h0]
      by_cases h1 : a.getD i 0 < b.getD i 0
      · rw [if_pos h1]
        have := dv_less (by decide) ha hb hl i (by omega) hs h1
        exact ⟨-1, rfl, by unfold Sg; omega, by omega, by omega⟩
      · rw [if_neg h1]
        have := dv_less (by decide) hb ha hl.symm i (by omega) hs.symm (by omega)
        exact ⟨1, rfl, by unfold Sg; omega, by omega, by omega⟩
theorem cmp_f (a b : List Int) (ha : Cn 4294967296 a) (hb : Cn 4294967296 b) (hn : a.length ≤ 1099511627776) (hm : b.length ≤ 1099511627776) (k : Nat) (hk : a.length < k) :
    ∃ c, num_cmpMag.f k a b = some c ∧ Sg c (dv 4294967296 a) (dv 4294967296 b) ∧ -1099511627776 ≤ c ∧ c ≤ 1099511627776 := by
  unfold num_cmpMag.f
  by_cases hl : (a.length : Int) = b.length
  · rw [if_pos hl, w64 (by omega) (by omega)]
    obtain ⟨c, h1, h2, h3, h4⟩ := cmp_l a b ha.dg hb.dg (by omega) hn a.length (Nat.le_refl _) (by rw [List.drop_of_length_le (Nat.le_refl _), List.drop_of_length_le (by omega)]) k hk
    exact ⟨c, h1, h2, by omega, by omega⟩
  · rw [if_neg hl, w64 (by omega) (by omega)]
    refine ⟨_, rfl, ?_, by omega, by omega⟩
    rcases Nat.lt_or_ge a.length b.length with h | h
    · have := dv_len (by decide) ha.dg hb h
      unfold Sg
      omega
    · have := dv_len (by decide) hb.dg ha (by omega)
      unfold Sg
      omega

/-! ### multiplication -/
theorem mul_step {o0 c x y D P r q o B : Int} (h : r + B * q = c + (x * y + o)) : o0 + c * P + x * (y + B * D) * P = o0 + (r - o) * P + q * (P * B) + x * D * (P * B) := by
  have h1 : (r + B * q) * P = (c + (x * y + o)) * P := by rw [h]
  grind
theorem mul_num {c x y o : Int} (hc0 : 0 ≤ c) (hc1 : c < 4294967296) (hx0 : 0 ≤ x) (hx1 : x < 4294967296) (hy0 : 0 ≤ y) (hy1 : y < 4294967296) (ho0 : 0 ≤ o) (ho1 : o < 4294967296) :
    ∃ r q, IntKind.u64.wrap (c + IntKind.u64.wrap (IntKind.u64.wrap (IntKind.u64.wrap x * IntKind.u64.wrap y) + IntKind.u64.wrap o)) % 4294967296 = r ∧
      IntKind.u64.wrap (c + IntKind.u64.wrap (IntKind.u64.wrap (IntKind.u64.wrap x * IntKind.u64.wrap y) + IntKind.u64.wrap o)) / 4294967296 = q ∧ 0 ≤ r ∧ r < 4294967296 ∧ 0 ≤ q ∧ q < 4294967296 ∧ r + 4294967296 * q = c + (x * y + o) := by
  have hxy := mul_lt_sq hx0 hx1 hy0 hy1
  rw [u64 (x := x) (by omega) (by omega), u64 (x := y) (by omega) (by omega), u64 (x := o) (by omega) (by omega)]
  generalize x * y = xy at *
  rw [u64 (x := xy) (by omega) (by omega), u64 (x := xy + o) (by omega) (by omega), u64 (x := c + (xy + o)) (by omega) (by omega)]
  exact ⟨_, _, rfl, rfl, by omega, by omega, by omega, by omega, by omega⟩
theorem sub_num {x y c : Int} (hc0 : 0 ≤ c) (hc1 : c ≤ 1) (hx0 : 0 ≤ x) (hx1 : x < 4294967296) (hy0 : 0 ≤ y) (hy1 : y < 4294967296) :
    ∃ r q, IntKind.u64.wrap (IntKind.u64.wrap (IntKind.u64.wrap x - IntKind.u64.wrap y) - c) % 4294967296 = r ∧ IntKind.u64.wrap (IntKind.u64.wrap (IntKind.u64.wrap x - IntKind.u64.wrap y) - c) / 9223372036854775808 = q ∧
      0 ≤ r ∧ r < 4294967296 ∧ 0 ≤ q ∧ q ≤ 1 ∧ r = x - y - c + 4294967296 * q := by
  rw [u64 (x := x) (by omega) (by omega), u64 (x := y) (by omega) (by omega), u64m, u64m]
  exact ⟨_, _, rfl, rfl, by omega, by omega, by omega, by omega, by omega⟩
theorem wadd {i j : Nat} (h : i + j ≤ 2199023255552) : wrap64 ((i : Int) + (j : Int)) = ((i + j : Nat) : Int) := by rw [w64 (by omega) (by omega)]; omega
theorem wsucc {i : Nat} (h : i ≤ 2199023255552) : wrap64 ((i : Int) + 1) = ((i + 1 : Nat) : Int) := by rw [w64 (by omega) (by omega)]; omega
theorem mul_l1 (a b : List Int) (i : Nat) (x : Int) (hb : Dg 4294967296 b) (hx0 : 0 ≤ x) (hx1 : x < 4294967296) (hn : i + b.length ≤ 1099511627776) :
    ∀ (d j : Nat) (out : List Int) (c : Int), j + d = b.length → Dg 4294967296 out → 0 ≤ c → c < 4294967296 → i + b.length < out.length → out.getD (i + b.length) 0 = 0 →
    ∃ out', (∀ k, num_mulMag.l1 (k + d + 1) b out i x c a a.length i b b.length j = num_mulMag.l0 k b out' a a.length ((i : Int) + 1)) ∧ out'.length = out.length ∧ Dg 4294967296 out' ∧
      dv 4294967296 out' = dv 4294967296 out + c * pw 4294967296 (i + j) + x * dv 4294967296 (b.drop j) * pw 4294967296 (i + j) ∧ ∀ m, i + 1 + b.length ≤ m → out'.getD m 0 = out.getD m 0 := by
  intro d
  induction d with
  | zero =>
    intro j out c hj ho hc0 hc1 hl hz
    refine ⟨out.set (i + b.length) c, fun k => ?_, by simp, ho.set _ hc0 hc1, ?_, fun m hm => getD_set (by omega)⟩
    · have e1 : wrap64 ((i : Int) + (b.length : Int)) = ((i + b.length : Nat) : Int) := wadd (by omega)
      have e2 : c % 4294967296 = c := Int.emod_eq_of_lt hc0 hc1
      have e3 : wrap64 ((i : Int) + 1) = (i : Int) + 1 := w64 (by omega) (by omega)
      simp only [num_mulMag.l1, e1, e2, e3, Int.toNat_natCast]
      rw [if_neg (by omega), if_pos (by omega), if_pos (by omega)]
    · have e : j = b.length := by omega
      subst e
      rw [dv_set _ _ _ _ hl, hz, List.drop_of_length_le (Nat.le_refl _), dv_nil]
      simp
  | succ d ih =>
    intro j out c hj ho hc0 hc1 hl hz
    have hy := hb.getD (by decide) j
    have ho' := ho.getD (by decide) (i + j)
    generalize hyv : b.getD j 0 = y at hy
    generalize hov : out.getD (i + j) 0 = o at ho'
    obtain ⟨r, q, hr, hq, hr0, hr1, hq0, hq1, hs⟩ := mul_num hc0 hc1 hx0 hx1 hy.1 hy.2 ho'.1 ho'.2
    obtain ⟨out', h1, h2, h3, h4, h5⟩ := ih (j + 1) (out.set (i + j) r) q (by omega) (ho.set _ hr0 hr1) hq0 hq1 (by simpa using hl) (by rw [getD_set (by omega)]; exact hz)
    refine ⟨out', fun k => ?_, by simpa using h2, h3, ?_, fun m hm => by rw [h5 m hm, getD_set (by omega)]⟩
    · have e4 : k + (d + 1) + 1 = (k + d + 1) + 1 := by omega
      rw [e4]
      simp only [num_mulMag.l1, wadd (show i + j ≤ 2199023255552 by omega), wsucc (show j ≤ 2199023255552 by omega), rd_nat, Int.toNat_natCast]
      clear hs hr0 hr1 hq0 hq1
      rw [if_pos (by omega), if_pos (by omega), if_pos (by omega), if_pos (by omega), if_pos (by omega), hyv, hov, hr, hq]
      exact h1 k
    · rw [h4, dv_set _ _ _ _ (by omega), hov, dv_drop 4294967296 b j (by omega), hyv, ← Nat.add_assoc, pw_succ]
      exact (mul_step hs).symm
theorem mul_l0 (a b : List Int) (ha : Dg 4294967296 a) (hb : Dg 4294967296 b) (hn : a.length + b.length ≤ 1099511627776) :
    ∀ (d i : Nat) (out : List Int), i + d = a.length → Dg 4294967296 out → out.length = a.length + b.length → dv 4294967296 out = dv 4294967296 (a.take i) * dv 4294967296 b → (∀ m, i + b.length ≤ m → out.getD m 0 = 0) →
    ∀ k, a.length + b.length < k → ∃ r, num_mulMag.l0 (k + d * (b.length + 2) + 1) b out a a.length i = some r ∧ Cn 4294967296 r ∧ dv 4294967296 r = dv 4294967296 a * dv 4294967296 b ∧ r.length ≤ a.length + b.length := by
  intro d
  induction d with
  | zero =>
    intro i out hi ho hl hv hz k hk
    obtain ⟨r, h1, h2, h3, h4⟩ := trim_f out ho (by omega) k (by omega)
    refine ⟨r, ?_, h2, ?_, by omega⟩
    · simp only [Nat.zero_mul, Nat.add_zero, num_mulMag.l0]
      rw [if_neg (by omega), h1]
      rfl
    · rw [h3, hv, List.take_of_length_le (by omega)]
  | succ d ih =>
    intro i out hi ho hl hv hz k hk
    have hx := ha.getD (by decide) i
    obtain ⟨out', h1, h2, h3, h4, h5⟩ := mul_l1 a b i (a.getD i 0) hb hx.1 hx.2 (by omega) b.length 0 out 0 (by omega) ho (by omega) (by omega) (by omega) (hz _ (Nat.le_refl _))
    obtain ⟨r, h6, h7, h8, h9⟩ := ih (i + 1) out' (by omega) h3 (by omega) (by
      rw [h4, hv, dv_take_succ' _ a i]
      simp only [List.drop_zero, Nat.add_zero]
      grind) (fun m hm => by rw [h5 m (by omega)]; exact hz m (by omega)) k hk
    refine ⟨r, ?_, h7, h8, h9⟩
    have e1 : k + (d + 1) * (b.length + 2) + 1 = (k + d * (b.length + 2) + 1 + b.length + 1) + 1 := by
      rw [Nat.add_mul]
      omega
    rw [e1]
    simp only [num_mulMag.l0, rd_nat]
    rw [if_pos (by omega), if_pos (by omega), if_pos (by omega)]
    exact (h1 _).trans h6
theorem mul_f (a b : List Int) (ha : Dg 4294967296 a) (hb : Dg 4294967296 b) (hn : a.length + b.length ≤ 1099511627776) :
    ∃ k r, num_mulMag.f k a b = some r ∧ Cn 4294967296 r ∧ dv 4294967296 r = dv 4294967296 a * dv 4294967296 b ∧ r.length ≤ a.length + b.length := by
  have e1 : wrap64 ((a.length : Int) + (b.length : Int)) = ((a.length + b.length : Nat) : Int) := by rw [w64 (by omega) (by omega)]; omega
  obtain ⟨r, h⟩ := mul_l0 a b ha hb hn a.length 0 (List.replicate (a.length + b.length) 0) (by omega) (Dg.replicate (by decide) _) (by simp) (by rw [dv_replicate]; simp [dv]) (fun m _ => by
    rw [List.getD_eq_getElem?_getD, List.getElem?_replicate]
    split <;> rfl) (a.length + b.length + 1) (by omega)
  refine ⟨a.length + b.length + 1 + a.length * (b.length + 2) + 1, r, ?_, h.2⟩
  unfold num_mulMag.f
  rw [e1, Int.toNat_natCast, if_pos (by omega), if_pos (by omega)]
  exact h.1

/-! ### subtraction -/
theorem sub_l (a b : List Int) (ha : Dg 4294967296 a) (hb : Dg 4294967296 b) (hn : a.length ≤ 1099511627776) (hlb : b.length ≤ a.length) (hle : dv 4294967296 b ≤ dv 4294967296 a) :
    ∀ (d i : Nat) (out : List Int) (c : Int), i + d = a.length → Dg 4294967296 out → out.length = a.length → 0 ≤ c → c ≤ 1 → dv 4294967296 out = dv 4294967296 (a.take i) - dv 4294967296 (b.take i) + c * pw 4294967296 i → (∀ m, i ≤ m → out.getD m 0 = 0) →
    ∀ k, a.length < k → ∃ r, num_subMag.l0 (k + d + 1) b out c a a.length i = some r ∧ Cn 4294967296 r ∧ dv 4294967296 r = dv 4294967296 a - dv 4294967296 b ∧ r.length ≤ a.length := by
  intro d
  induction d with
  | zero =>
    intro i out c hi ho hl hc0 hc1 hv hz k hk
    obtain ⟨r, h1, h2, h3, h4⟩ := trim_f out ho (by omega) k (by omega)
    refine ⟨r, ?_, h2, ?_, by omega⟩
    · simp only [Nat.add_zero, num_subMag.l0]
      rw [if_neg (by omega), h1]
      rfl
    · rw [List.take_of_length_le (by omega), List.take_of_length_le (by omega)] at hv
      have h5 := dv_lt (by decide) ho
      have e : i = out.length := by omega
      rw [← e] at h5
      have h6 : c = 0 := by
        rcases (show c = 0 ∨ c = 1 by omega) with h | h
        · exact h
        · rw [h] at hv
          omega
      rw [h3, hv, h6]
      omega
  | succ d ih =>
    intro i out c hi ho hl hc0 hc1 hv hz k hk
    have hx := ha.getD (by decide) i
    have hy := hb.getD (by decide) i
    have ea := dv_take_succ' 4294967296 a i
    have eb := dv_take_succ' 4294967296 b i
    generalize hxv : a.getD i 0 = x at hx ea
    generalize hyv : b.getD i 0 = y at hy eb
    obtain ⟨r, q, hr, hq, hr0, hr1, hq0, hq1, hs⟩ := sub_num hc0 hc1 hx.1 hx.2 hy.1 hy.2
    have key : num_subMag.l0 (k + (d + 1) + 1) b out c a a.length i = num_subMag.l0 (k + d + 1) b (out.set i r) q a a.length ((i + 1 : Nat) : Int) := by
      have e0 : k + (d + 1) + 1 = (k + d + 1) + 1 := by omega
      rw [e0]
      simp only [num_subMag.l0, rd_nat, wsucc (show i ≤ 2199023255552 by omega), Int.toNat_natCast]
      clear hs ih hv ea eb hle hr0 hr1 hq0 hq1
      rw [if_pos (by omega), if_pos (by omega), if_pos (by omega), hxv, hyv]
      by_cases hib : (i : Int) < (b.length : Int)
      · rw [if_pos hib, if_pos (by omega), hr, hq]
      · have hy0 : y = 0 := by rw [← hyv]; exact getD_ge (by omega)
        rw [hy0, u64 (x := 0) (by omega) (by omega)] at hr hq
        rw [if_neg hib, if_pos (by omega), hr, hq]
    rw [key]
    refine ih (i + 1) _ _ (by omega) (ho.set _ hr0 hr1) (by simpa using hl) hq0 hq1 ?_ (fun m hm => by rw [getD_set (by omega)]; exact hz m (by omega)) k hk
    rw [dv_set _ _ _ _ (by omega), hz i (Nat.le_refl _), hv, ea, eb, pw_succ, hs]
    grind
theorem sub_f (a b : List Int) (ha : Cn 4294967296 a) (hb : Cn 4294967296 b) (hn : a.length ≤ 1099511627776) (hle : dv 4294967296 b ≤ dv 4294967296 a) :
    ∃ k r, num_subMag.f k a b = some r ∧ Cn 4294967296 r ∧ dv 4294967296 r = dv 4294967296 a - dv 4294967296 b ∧ r.length ≤ a.length := by
  have hlb : b.length ≤ a.length := by
    rcases Nat.lt_or_ge a.length b.length with h | h
    · have := dv_len (by decide) ha.dg hb h
      omega
    · exact h
  obtain ⟨r, h⟩ := sub_l a b ha.dg hb.dg hn hlb hle a.length 0 (List.replicate a.length 0) 0 (by omega) (Dg.replicate (by decide) _) (by simp) (by omega) (by omega) (by rw [dv_replicate]; simp [dv]) (fun m _ => by
    rw [List.getD_eq_getElem?_getD, List.getElem?_replicate]
    split <;> rfl) (a.length + 1) (by omega)
  refine ⟨a.length + 1 + a.length + 1, r, ?_, h.2⟩
  unfold num_subMag.f
  rw [if_pos (by omega), if_pos (by omega), Int.toNat_natCast]
  exact h.1
end Go.Proofs.Ytpbhepdgamoiaaa.Mn

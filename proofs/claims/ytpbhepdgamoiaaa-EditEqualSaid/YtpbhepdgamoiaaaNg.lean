/-
  A digit of a quotient: the walk of num.digit.
-/
import Derived.Test.YtpbhepdgamoiaaaNs
import Derived.Test.YtpbhepdgamoiaaaNk
import Derived.Outline
import Derived.Deep.DeepCutAuto
import Derived.Deep.CutBlock
namespace Go.Proofs.Ytpbhepdgamoiaaa.Ng
open Go.RowKit Go Go.Proofs.YtpbhepdgamoiaaaW.PrintWords Go.Proofs.YtpbhepdgamoiaaaW.PrintLast Go.Proofs.YtpbhepdgamoiaaaW.PrintMore Go.Proofs.Ytpbhepdgamoiaaa.Ml Go.Proofs.Ytpbhepdgamoiaaa.Mn Go.Proofs.Ytpbhepdgamoiaaa.Nd Go.Proofs.Ytpbhepdgamoiaaa.P Go.Proofs.Ytpbhepdgamoiaaa.Nc Go.Proofs.Ytpbhepdgamoiaaa.Ns Go.Proofs.Ytpbhepdgamoiaaa.Nk
set_option linter.unusedVariables false
set_option linter.unusedSimpArgs false

theorem getD_app {P Y Z : List Int} (i : Nat) (hi : i < Y.length) : (P ++ (Y ++ Z)).getD (P.length + i) 0 = Y.getD i 0 := by
  simp [List.getD_eq_getElem?_getD, List.getElem?_append_right (Nat.le_add_right _ _), List.getElem?_append_left hi]
theorem set_app {P Y Z : List Int} (i : Nat) (v : Int) (hi : i < Y.length) : (P ++ (Y ++ Z)).set (P.length + i) v = P ++ (Y.set i v ++ Z) := by
  rw [List.set_append_right _ _ (Nat.le_add_right _ _), Nat.add_sub_cancel_left, List.set_append_left _ _ hi]
/-- The two numbers in memory: the dividend's window behind P, the divisor. -/
structure Two (w0 W : World) (gu gv N cu n cv : Nat) (P Z Y V : List Int) : Prop where
  u : Kd.R (Kd.int .u32) 157 W 0 (fun _ => True) (.slice (some ⟨gu, 0, none⟩) N cu) (P ++ (Y ++ Z))
  v : Kd.R (Kd.int .u32) 157 W 0 (fun _ => True) (.slice (some ⟨gv, 0, none⟩) n cv) V
  g : w0.grownBy W (some gu)
theorem Two.drewN {w0 W : World} {gu gv N cu n cv : Nat} {P Z Y V : List Int} (h : Two w0 W gu gv N cu n cv P Z Y V) (m : Nat) : Two w0 (W.drewN m) gu gv N cu n cv P Z Y V :=
  ⟨Kd.R_drewN h.u m, Kd.R_drewN h.v m, h.g.trans (grown_of_below (pw_below_drewN (Below.refl _ _) m) _)⟩
theorem Two.ucell {w0 W : World} {gu gv N cu n cv : Nat} {P Z Y V : List Int} (h : Two w0 W gu gv N cu n cv P Z Y V) (i : Nat) (hi : i < Y.length) : W.cell? ⟨gu, P.length + i, none⟩ = some (.int .u32 (Y.getD i 0)) ∧ W.frozen? ⟨gu, P.length + i, none⟩ = false := by
  have h1 := Kd.R_reads' h.u
  have := own_cell h.u (P.length + i) (by rw [h1.1]; simp; omega)
  rwa [getD_app i hi] at this
theorem Two.vcell {w0 W : World} {gu gv N cu n cv : Nat} {P Z Y V : List Int} (h : Two w0 W gu gv N cu n cv P Z Y V) (i : Nat) (hi : i < n) : W.cell? ⟨gv, i, none⟩ = some (.int .u32 (V.getD i 0)) := (own_cell h.v i hi).1
theorem Two.put {w0 W : World} {gu gv N cu n cv : Nat} {P Z Y V : List Int} (h : Two w0 W gu gv N cu n cv P Z Y V) (hne : gv ≠ gu) (i : Nat) (hi : i < Y.length) (x : Int) : Two w0 (W.setCell ⟨gu, P.length + i, none⟩ (.int .u32 x)) gu gv N cu n cv P Z (Y.set i x) V := by
  refine ⟨?_, ?_, ?_⟩
  · have := own_put h.u (P.length + i) x
    rwa [set_app i x hi] at this
  · refine Kd.R_mono (ok := fun k => k = gv) (Kd.R_far (p := ⟨gu, P.length + i, none⟩) (Kd.R_mono (Kd.R_tight rfl h.v) (fun k hk => ?_)) (fun k hk => ?_) _) (fun _ _ => trivial)
    · simpa [Value.ownBlock] using hk
    · rw [hk]; exact hne
  · have := (Kd.R_putg h.u ((P.length + i : Nat) : Int) x).2
    rw [Int.toNat_natCast] at this
    exact h.g.trans this

/-- Where the guess stands. -/
structure GsI (V Y : List Int) (n : Nat) (Q q r : Int) : Prop where
  qr : q * V.getD (n + 1) 0 + r = Y.getD (n + 2) 0 * 4294967296 + Y.getD (n + 1) 0
  le : Q ≤ q
  r0 : 0 ≤ r
def GsP (V Y : List Int) (q : Int) : Prop := 0 ≤ q ∧ q < 4294967296 ∧ -dv 4294967296 V ≤ dv 4294967296 Y - q * dv 4294967296 V ∧ dv 4294967296 Y - q * dv 4294967296 V < dv 4294967296 V

abbrev KnO (V Y : List Int) (n : Nat) : Prop := Kn (V.getD (n + 1) 0) (V.getD n 0) (dv 4294967296 (V.take n)) (Y.getD (n + 2) 0 * 4294967296 + Y.getD (n + 1) 0) (Y.getD n 0) (dv 4294967296 (Y.take n)) (pw 4294967296 n)
abbrev QtO (V Y : List Int) (n : Nat) (Q : Int) : Prop := Qt (V.getD (n + 1) 0) (V.getD n 0) (dv 4294967296 (V.take n)) (Y.getD (n + 2) 0 * 4294967296 + Y.getD (n + 1) 0) (Y.getD n 0) (dv 4294967296 (Y.take n)) (pw 4294967296 n) Q
theorem GsI.next {V Y : List Int} {n : Nat} {Q q r : Int} (h : GsI V Y n Q q r) (hK : KnO V Y n) (hQ : QtO V Y n Q) (ht : 4294967296 ≤ q ∨ r * 4294967296 + Y.getD n 0 < q * V.getD n 0) : GsI V Y n Q (q - 1) (r + V.getD (n + 1) 0) ∧ 1 ≤ q := by
  have h1 := hK.step hQ h.qr h.le ht
  have h2 := hQ.q0
  refine ⟨⟨?_, h1, by have := h.r0; have := hK.v1a; omega⟩, by omega⟩
  have := h.qr
  rw [← this]
  grind
theorem GsI.done {V Y : List Int} {n : Nat} {Q q r : Int} (h : GsI V Y n Q q r) (hK : KnO V Y n) (hQ : QtO V Y n Q)
    (hS : dv 4294967296 V = (V.getD (n + 1) 0 * 4294967296 + V.getD n 0) * pw 4294967296 n + dv 4294967296 (V.take n) ∧ dv 4294967296 Y = ((Y.getD (n + 2) 0 * 4294967296 + Y.getD (n + 1) 0) * 4294967296 + Y.getD n 0) * pw 4294967296 n + dv 4294967296 (Y.take n))
    (ht : 4294967296 ≤ r ∨ (q < 4294967296 ∧ q * V.getD n 0 ≤ r * 4294967296 + Y.getD n 0)) : GsP V Y q := by
  have h2 := hQ.q0
  have h3 := h.le
  have h4 : q < 4294967296 := by
    rcases ht with ht | ht
    · exact hK.small h.qr ht
    · exact ht.1
  have h5 := hK.pass hQ h.qr h3 h4 h.r0 (ht.imp id And.right)
  have h6 := hK.left hQ h3 h5
  rw [← hS.1, ← hS.2] at h6
  exact ⟨by omega, h4, h6⟩
/-! ### the guess times the divisor is taken away -/
structure SbI (V Y0 : List Int) (q : Int) (i : Nat) (c b : Int) (Y : List Int) : Prop where
  c0 : 0 ≤ c
  c1 : c < 4294967296
  b0 : 0 ≤ b
  b1 : b ≤ 1
  dg : Dg 4294967296 Y
  len : Y.length = Y0.length
  val : dv 4294967296 (Y.take i) - (c + b) * pw 4294967296 i = dv 4294967296 (Y0.take i) - q * dv 4294967296 (V.take i)
  same : ∀ m, i ≤ m → Y.getD m 0 = Y0.getD m 0
theorem take_set {l : List Int} {i : Nat} {v : Int} : (l.set i v).take i = l.take i := by
  rw [List.take_set]
  exact List.set_eq_of_length_le (by simp; omega)
theorem dv_take_set {l : List Int} {i : Nat} {v : Int} (hi : i < l.length) : dv 4294967296 ((l.set i v).take (i + 1)) = dv 4294967296 (l.take i) + v * pw 4294967296 i := by
  rw [dv_take_succ', take_set, getD_set_self hi]
theorem sb_num {u x b : Int} (hu0 : 0 ≤ u) (hu1 : u < 4294967296) (hx : 0 ≤ x) (hb0 : 0 ≤ b) (hb1 : b ≤ 1) :
    ∃ r b', IntKind.u64.wrap (IntKind.u64.wrap (u - x % 4294967296) - b) % 4294967296 = r ∧ IntKind.u64.wrap (IntKind.u64.wrap (u - x % 4294967296) - b) / 9223372036854775808 = b' ∧ 0 ≤ r ∧ r < 4294967296 ∧ 0 ≤ b' ∧ b' ≤ 1 ∧ u - x % 4294967296 - b = r - 4294967296 * b' := by
  rw [u64m, u64m]
  exact ⟨_, _, rfl, rfl, by omega, by omega, by omega, by omega, by omega⟩
theorem SbI.step {V Y0 Y : List Int} {q c b : Int} {i : Nat} (h : SbI V Y0 q i c b Y) (hV : Dg 4294967296 V) (hq0 : 0 ≤ q) (hq1 : q < 4294967296) (hi : i < Y.length) :
    SbI V Y0 q (i + 1) ((c + q * V.getD i 0) / 4294967296) (IntKind.u64.wrap (IntKind.u64.wrap (Y.getD i 0 - (c + q * V.getD i 0) % 4294967296) - b) / 9223372036854775808)
      (Y.set i (IntKind.u64.wrap (IntKind.u64.wrap (Y.getD i 0 - (c + q * V.getD i 0) % 4294967296) - b) % 4294967296)) := by
  have h1 := hV.getD (by decide) i
  have h2 := h.dg.getD (by decide) i
  have h3 := mul_lt_sq hq0 hq1 h1.1 h1.2
  have c0 := h.c0
  have c1 := h.c1
  obtain ⟨x, hx⟩ : ∃ x, x = c + q * V.getD i 0 := ⟨_, rfl⟩
  rw [← hx]
  have hx0 : 0 ≤ x := by omega
  have hx1 : x ≤ 18446744069414584320 := by omega
  obtain ⟨r, b', hr, hb, r0, r1, b0, b1, he⟩ := sb_num h2.1 h2.2 hx0 h.b0 h.b1
  rw [hr, hb]
  refine ⟨by omega, by omega, b0, b1, h.dg.set _ r0 r1, by simpa using h.len, ?_, fun m hm => by rw [getD_set (by omega)]; exact h.same m (by omega)⟩
  rw [dv_take_set hi, dv_take_succ', dv_take_succ', pw_succ, ← h.same i (Nat.le_refl _)]
  have h4 := h.val
  have h5 : x % 4294967296 = x - 4294967296 * (x / 4294967296) := by omega
  rw [h5] at he
  generalize x / 4294967296 = xq at he ⊢
  generalize Y.getD i 0 = u at he ⊢
  generalize V.getD i 0 = y at hx ⊢
  have hr2 : r = u - x + 4294967296 * xq - b + 4294967296 * b' := by omega
  rw [hr2, hx]
  grind
/-! ### the divisor is added again -/
structure AbI (V Y1 : List Int) (i : Nat) (c : Int) (Y : List Int) : Prop where
  c0 : 0 ≤ c
  c1 : c ≤ 1
  dg : Dg 4294967296 Y
  len : Y.length = Y1.length
  val : dv 4294967296 (Y.take i) + c * pw 4294967296 i = dv 4294967296 (Y1.take i) + dv 4294967296 (V.take i)
  same : ∀ m, i ≤ m → Y.getD m 0 = Y1.getD m 0
theorem AbI.step {V Y1 Y : List Int} {c : Int} {i : Nat} (h : AbI V Y1 i c Y) (hV : Dg 4294967296 V) (hi : i < Y.length) :
    AbI V Y1 (i + 1) ((c + (Y.getD i 0 + V.getD i 0)) / 4294967296) (Y.set i ((c + (Y.getD i 0 + V.getD i 0)) % 4294967296)) := by
  have h1 := hV.getD (by decide) i
  have h2 := h.dg.getD (by decide) i
  have c0 := h.c0
  have c1 := h.c1
  obtain ⟨x, hx⟩ : ∃ x, x = c + (Y.getD i 0 + V.getD i 0) := ⟨_, rfl⟩
  rw [← hx]
  refine ⟨by omega, by omega, h.dg.set _ (by omega) (by omega), by simpa using h.len, ?_, fun m hm => by rw [getD_set (by omega)]; exact h.same m (by omega)⟩
  rw [dv_take_set hi, dv_take_succ', dv_take_succ', pw_succ, ← h.same i (Nat.le_refl _)]
  have h4 := h.val
  have h5 : x % 4294967296 = x - 4294967296 * (x / 4294967296) := by omega
  rw [h5]
  generalize x / 4294967296 = xq
  rw [hx]
  grind
/-! ### what comes of it -/
theorem SbI.top {V Y0 Y : List Int} {q c b : Int} {n : Nat} (h : SbI V Y0 q (n + 2) c b Y) (hV : V.length = n + 2) (hY : Y0.length = n + 3) :
    dv 4294967296 (Y.take (n + 2)) + (Y.getD (n + 2) 0 - c - b) * pw 4294967296 (n + 2) = dv 4294967296 Y0 - q * dv 4294967296 V := by
  have h1 := h.val
  have h2 := dv_take_succ' 4294967296 Y0 (n + 2)
  rw [List.take_of_length_le (show Y0.length ≤ n + 2 + 1 by omega)] at h2
  rw [List.take_of_length_le (show V.length ≤ n + 2 by omega)] at h1
  rw [h2, h.same (n + 2) (Nat.le_refl _)]
  grind
theorem SbI.two {V Y0 Y : List Int} {q c b : Int} {n : Nat} (h : SbI V Y0 q (n + 2) c b Y) (hV : V.length = n + 2) (hY : Y0.length = n + 3) (dV : Dg 4294967296 V) (hP : GsP V Y0 q) :
    (Y.getD (n + 2) 0 - c - b = 0 ∧ 0 ≤ dv 4294967296 Y0 - q * dv 4294967296 V) ∨ (Y.getD (n + 2) 0 - c - b = -1 ∧ dv 4294967296 Y0 - q * dv 4294967296 V < 0) := by
  have h1 := h.top hV hY
  have h2 := dv_nonneg (by decide) (h.dg.take (n + 2))
  have h3 := dv_lt (by decide) (h.dg.take (n + 2))
  have h4 := dv_lt (by decide) dV
  have h5 := pow_pos (B := 4294967296) (by decide) (n + 2)
  rw [List.length_take, Nat.min_eq_left (by have := h.len; omega)] at h3
  rw [hV] at h4
  have h6 := hP.2.2
  generalize dv 4294967296 Y0 - q * dv 4294967296 V = T at *
  generalize Y.getD (n + 2) 0 - c - b = e at *
  generalize dv 4294967296 (Y.take (n + 2)) = D at *
  generalize pw 4294967296 (n + 2) = M at *
  have h7 : e = 0 ∨ e = -1 ∨ 1 ≤ e ∨ e ≤ -2 := by omega
  rcases h7 with h7 | h7 | h7 | h7
  · subst h7
    left
    omega
  · subst h7
    right
    omega
  · have := Int.mul_le_mul_of_nonneg_right h7 (Int.le_of_lt h5)
    omega
  · have := Int.mul_le_mul_of_nonneg_right h7 (Int.le_of_lt h5)
    omega
theorem SbI.fin {V Y0 Y : List Int} {q c b : Int} {n : Nat} (h : SbI V Y0 q (n + 2) c b Y) (hV : V.length = n + 2) (hY : Y0.length = n + 3) (hP : GsP V Y0 q) (he : Y.getD (n + 2) 0 - c - b = 0) :
    (Y.set (n + 2) 0).length = n + 3 ∧ Dg 4294967296 (Y.set (n + 2) 0) ∧ dv 4294967296 Y0 = q * dv 4294967296 V + dv 4294967296 (Y.set (n + 2) 0) ∧ dv 4294967296 (Y.set (n + 2) 0) < dv 4294967296 V := by
  have h1 := h.top hV hY
  have h2 := dv_take_set (l := Y) (i := n + 2) (v := 0) (by have := h.len; omega)
  rw [List.take_of_length_le (by have := h.len; simp; omega)] at h2
  rw [he] at h1
  have h6 := hP.2.2
  refine ⟨by have := h.len; simp; omega, h.dg.set _ (by omega) (by omega), by omega, by omega⟩
theorem AbI.fin {V Y0 Y Y1 : List Int} {q c : Int} {n : Nat} (h : AbI V Y1 (n + 2) c Y) (hV : V.length = n + 2) (hY1 : Y1.length = n + 3) (hP : GsP V Y0 q) (hT : dv 4294967296 Y0 - q * dv 4294967296 V < 0) (h1 : dv 4294967296 (Y1.take (n + 2)) - pw 4294967296 (n + 2) = dv 4294967296 Y0 - q * dv 4294967296 V) :
    c = 1 ∧ (Y.set (n + 2) 0).length = n + 3 ∧ Dg 4294967296 (Y.set (n + 2) 0) ∧ dv 4294967296 Y0 = (q - 1) * dv 4294967296 V + dv 4294967296 (Y.set (n + 2) 0) ∧ dv 4294967296 (Y.set (n + 2) 0) < dv 4294967296 V := by
  have h2 := h.val
  rw [List.take_of_length_le (show V.length ≤ n + 2 by omega)] at h2
  have h3 := dv_take_set (l := Y) (i := n + 2) (v := 0) (by have := h.len; omega)
  rw [List.take_of_length_le (by have := h.len; simp; omega)] at h3
  have h4 := dv_lt (by decide) (h.dg.take (n + 2))
  rw [List.length_take, Nat.min_eq_left (by have := h.len; omega)] at h4
  have h6 := hP.2.2
  have c0 := h.c0
  have c1 := h.c1
  have hc : c = 1 := by
    rcases (show c = 0 ∨ c = 1 by omega) with e | e
    · rw [e] at h2
      omega
    · exact e
  rw [hc] at h2
  have e1 : (q - 1) * dv 4294967296 V = q * dv 4294967296 V - dv 4294967296 V := by grind
  refine ⟨hc, by have := h.len; simp; omega, h.dg.set _ (by omega) (by omega), by rw [e1]; omega, by omega⟩
def DigP (w0 : World) (gu gv N cu n cv : Nat) (P Z Y V : List Int) (e : Ending) (w' : World) : Prop := ∃ q Y', e = .returned (.int .u32 q) ∧ Two w0 w' gu gv N cu (n + 2) cv P Z Y' V ∧ Y'.length = n + 3 ∧ Dg 4294967296 Y' ∧ 0 ≤ q ∧ q < 4294967296 ∧ dv 4294967296 Y = q * dv 4294967296 V + dv 4294967296 Y' ∧ dv 4294967296 Y' < dv 4294967296 V
set_option maxHeartbeats 8000000 in
set_option maxRecDepth 100000 in
theorem digit_n (w0 W : World) (gu gv N cu cv n c2 : Nat) (P Z Y V : List Int) (hne : gv ≠ gu) (H2 : Two w0 W gu gv N cu (n + 2) cv P Z Y V) (hV : V.length = n + 2) (hY : Y.length = n + 3) (dV : Dg 4294967296 V) (dY : Dg 4294967296 Y) (htop : 2147483648 ≤ V.getD (n + 1) 0) (hlt : dv 4294967296 Y < dv 4294967296 V * 4294967296) (hn : n ≤ 1000000) (hP : P.length ≤ 1000000) :
    Calls Try.prog 167 #[.slice (some ⟨gu, P.length, none⟩) (n + 3) c2, .slice (some ⟨gv, 0, none⟩) (n + 2) cv] W (DigP w0 gu gv N cu n cv P Z Y V) := by
  obtain ⟨hK, eV, eY⟩ := Kn.of V Y n hV hY dV dY htop hlt
  obtain ⟨Q, hQ⟩ : ∃ Q, Qt (V.getD (n + 1) 0) (V.getD n 0) (dv 4294967296 (V.take n)) (Y.getD (n + 2) 0 * 4294967296 + Y.getD (n + 1) 0) (Y.getD n 0) (dv 4294967296 (Y.take n)) (pw 4294967296 n) Q := ⟨_, hK.qt⟩
  have u0 := (H2.ucell (n + 2) (by omega)).1
  have u1 := (H2.ucell (n + 1) (by omega)).1
  have v1 := H2.vcell (n + 1) (by omega)
  have b0 := dY.getD (by decide) (n + 2)
  have b1 := dY.getD (by decide) (n + 1)
  have b2 := dV.getD (by decide) (n + 1)
  generalize hy2 : Y.getD (n + 2) 0 = y2 at u0 b0
  generalize hy1 : Y.getD (n + 1) 0 = y1 at u1 b1
  generalize hv1 : V.getD (n + 1) 0 = x1 at v1 b2 htop
  obtain ⟨b00, b01⟩ := b0
  obtain ⟨b10, b11⟩ := b1
  obtain ⟨b20, b21⟩ := b2
  have hor : bits BinOp.or IntKind.u64 (y2 * 4294967296) y1 = y2 * 4294967296 + y1 := or_high _ _ 32 (by omega) (by omega) (by omega) b10 (by omega) (by omega)
  have HE := Aside0.mk (And.intro hy2 (And.intro hy1 hv1))
  have HK := Aside0.mk hK
  have HQ := Aside0.mk hQ
  have HS := Aside0.mk (And.intro eV eY)
  have HD := Aside0.mk (And.intro dV (And.intro dY (And.intro hV hY)))
  have HT := Aside0.mk H2
  clear hy2 hy1 hv1 hK hQ eV eY dV dY hV hY H2 hlt
  go_enter Try.func167, Try.ntmps167
  go_wp2_with fail
  go_quiet (fail)
  go_wp2_with fail
  go_quiet (fail)
  generalize hq : World.drewN (World.drewN W _) _ = W1
  have HT1 := Aside0.mk (show Two w0 W1 gu gv N cu (n + 2) cv P Z Y V by rw [← hq]; exact (HT.out.drewN _).drewN _)
  clear hq HT u0 u1 v1
  go_upto_block 0 with fail
  go_cut [7] (fun q w' => ∃ z : Int, q = .int .u64 z ∧ Aside0 (GsP V Y z) ∧ Aside0 (Two w0 w' gu gv N cu (n + 2) cv P Z Y V))
  case first =>
    have hx1 : 0 < x1 := by omega
    have htt : 0 ≤ y2 * 4294967296 + y1 := by omega
    have e0 : 0 ≤ (y2 * 4294967296 + y1) / x1 := Int.ediv_nonneg htt (by omega)
    have hfirst := HK.out.first HQ.out
    rw [HE.out.1, HE.out.2.1, HE.out.2.2] at hfirst
    have hrem0 := Int.emod_nonneg (y2 * 4294967296 + y1) (show x1 ≠ 0 by omega)
    have hrem1 := Int.emod_lt_of_pos (y2 * 4294967296 + y1) hx1
    have hrem2 := Int.ediv_mul_add_emod (y2 * 4294967296 + y1) x1
    have HI0 := Aside0.mk (show GsI V Y n Q ((y2 * 4294967296 + y1) / x1) ((y2 * 4294967296 + y1) % x1) from ⟨by rw [HE.out.1, HE.out.2.1, HE.out.2.2]; exact hrem2, hfirst, hrem0⟩)
    have HR0 := Aside0.mk (show (y2 * 4294967296 + y1) % x1 < 4294967296 by omega)
    have HE0 := Aside0.mk (show (((((y2 * 4294967296 + y1) / x1).toNat : Nat) : Int)) = (y2 * 4294967296 + y1) / x1 by omega)
    clear hfirst hrem0 hrem1 hrem2 e0
    have c0 := HD.out.2.1.getD (by decide) n
    have c1 := HD.out.1.getD (by decide) n
    generalize hx2 : V.getD n 0 = x2 at c1
    generalize hy0 : Y.getD n 0 = y0 at c0
    have HF := Aside0.mk (And.intro hx2 hy0)
    clear hx2 hy0
    obtain ⟨c00, c01⟩ := c0
    obtain ⟨c10, c11⟩ := c1
    go_wp2_with fail
    go_loopg [7, 8] ((y2 * 4294967296 + y1) / x1).toNat (fun kq v7 v8 w' => ∃ q r : Int, v7 = .int .u64 q ∧ v8 = .int .u64 r ∧ Aside0 ((kq : Int) = q) ∧ Aside0 (GsI V Y n Q q r) ∧ Aside0 (r < 4294967296) ∧ Aside0 (Two w0 w' gu gv N cu (n + 2) cv P Z Y V))
    case atStart =>
      exact ⟨_, _, rfl, rfl, HE0, HI0, HR0, HT1⟩
    case round =>
      clear HI0 HE0 HT1 HR0
      obtain ⟨q, r, rfl, rfl, HKq, HI, HR, HT1⟩ := hrel
      have v1 := HT1.out.vcell (n + 1) (by omega)
      rw [HE.out.2.2] at v1
      have v2 := HT1.out.vcell n (by omega)
      rw [HF.out.1] at v2
      have u2 := (HT1.out.ucell n (by rw [HD.out.2.2.2]; omega)).1
      rw [HF.out.2] at u2
      have r0 := HI.out.r0
      have r1 := HR.out
      have q0 : 0 ≤ q := Int.le_trans HQ.out.q0 HI.out.le
      have hqr := HI.out.qr
      rw [HE.out.1, HE.out.2.1, HE.out.2.2] at hqr
      have qx : q ≤ q * x1 := by
        have := Int.mul_le_mul_of_nonneg_left (show 1 ≤ x1 by omega) q0
        omega
      have q1 : q < 18446744073709551616 := by omega
      clear qx hqr
      have HK1 := Aside0.mk (show (KnO V Y n) ∧ QtO V Y n Q from ⟨HK.out, HQ.out⟩)
      have hgo : 4294967296 ≤ q ∨ ¬ 4294967296 ≤ q := by omega
      by_cases hr : 4294967296 ≤ r + x1
      · have hgr : decide (0 < (r + x1) / 4294967296) = true := decide_eq_true (by omega)
        rcases hgo with hq | hq
        · obtain ⟨hI, h1q⟩ := HI.out.next HK1.out.1 HK1.out.2 (.inl hq)
          have HD2 := Aside0.mk (hI.done HK1.out.1 HK1.out.2 HS.out (.inl (by rw [HE.out.2.2]; exact hr)))
          have hg : decide (0 < q / 4294967296) = true := decide_eq_true (by omega)
          clear hI
          go_wp2_with fail
          go_quiet (fail)
          go_wp2_with fail
          go_meet
          exact ⟨q - 1, rfl, HD2, ⟨HT1.out.drewN _⟩⟩
        · have hg : decide (0 < q / 4294967296) = false := decide_eq_false (by omega)
          have hp := mul_lt_sq q0 (show q < 4294967296 by omega) c10 c11
          obtain ⟨hp0, hp1⟩ := hp
          have hor2 : bits BinOp.or IntKind.u64 (r * 4294967296) y0 = r * 4294967296 + y0 := or_high _ _ 32 (by omega) (by omega) (by omega) c00 (by omega) (by omega)
          by_cases ht : r * 4294967296 + y0 < q * x2
          · obtain ⟨hI, h1q⟩ := HI.out.next HK1.out.1 HK1.out.2 (.inr (by rw [HF.out.1, HF.out.2]; exact ht))
            have HD2 := Aside0.mk (hI.done HK1.out.1 HK1.out.2 HS.out (.inl (by rw [HE.out.2.2]; exact hr)))
            clear hI
            go_wp2_with fail
            go_quiet (fail)
            go_wp2_with fail
            go_meet
            exact ⟨q - 1, rfl, HD2, ⟨HT1.out.drewN _⟩⟩
          · have HD2 := Aside0.mk (HI.out.done HK1.out.1 HK1.out.2 HS.out (.inr ⟨by omega, by rw [HF.out.1, HF.out.2]; omega⟩))
            go_wp2_with fail
            go_quiet (fail)
            go_wp2_with fail
            go_meet
            exact ⟨q, rfl, HD2, ⟨HT1.out.drewN _⟩⟩
      · have hgr : decide (0 < (r + x1) / 4294967296) = false := decide_eq_false (by omega)
        rcases hgo with hq | hq
        · obtain ⟨hI, h1q⟩ := HI.out.next HK1.out.1 HK1.out.2 (.inl hq)
          rw [HE.out.2.2] at hI
          have HD2 := Aside0.mk hI
          have hg : decide (0 < q / 4294967296) = true := decide_eq_true (by omega)
          have HRR := Aside0.mk (show r + x1 < 4294967296 by omega)
          clear hI
          go_wp2_with fail
          go_quiet (fail)
          go_wp2_with fail
          go_roundg (gk - 1)
          case measure => have := HKq.out; omega
          case rel => exact ⟨q - 1, r + x1, rfl, rfl, ⟨by have := HKq.out; omega⟩, HD2, HRR, ⟨HT1.out.drewN _⟩⟩
        · have hg : decide (0 < q / 4294967296) = false := decide_eq_false (by omega)
          have hp := mul_lt_sq q0 (show q < 4294967296 by omega) c10 c11
          obtain ⟨hp0, hp1⟩ := hp
          have hor2 : bits BinOp.or IntKind.u64 (r * 4294967296) y0 = r * 4294967296 + y0 := or_high _ _ 32 (by omega) (by omega) (by omega) c00 (by omega) (by omega)
          by_cases ht : r * 4294967296 + y0 < q * x2
          · obtain ⟨hI, h1q⟩ := HI.out.next HK1.out.1 HK1.out.2 (.inr (by rw [HF.out.1, HF.out.2]; exact ht))
            rw [HE.out.2.2] at hI
            have HD2 := Aside0.mk hI
            have HRR := Aside0.mk (show r + x1 < 4294967296 by omega)
            clear hI
            go_wp2_with fail
            go_quiet (fail)
            go_wp2_with fail
            go_roundg (gk - 1)
            case measure => have := HKq.out; omega
            case rel => exact ⟨q - 1, r + x1, rfl, rfl, ⟨by have := HKq.out; omega⟩, HD2, HRR, ⟨HT1.out.drewN _⟩⟩
          · have HD2 := Aside0.mk (HI.out.done HK1.out.1 HK1.out.2 HS.out (.inr ⟨by omega, by rw [HF.out.1, HF.out.2]; omega⟩))
            go_wp2_with fail
            go_quiet (fail)
            go_wp2_with fail
            go_meet
            exact ⟨q, rfl, HD2, ⟨HT1.out.drewN _⟩⟩
  case rest =>
    obtain ⟨q, rfl, HG, HT⟩ := hcut
    clear HK HQ HS HE HT1 hor
    have q0 := HG.out.1
    have q1 := HG.out.2.1
    have HS0 := Aside0.mk (show SbI V Y q 0 0 0 Y from ⟨by omega, by omega, by omega, by omega, HD.out.2.1, rfl, by simp [dv, pw], fun _ _ => rfl⟩)
    go_wp2_with fail
    go_loopg [9, 10, 87] (n + 2) (fun kq v9 v10 v87 w' => ∃ (i : Nat) (c b : Int) (Y9 : List Int), v9 = .int .u64 c ∧ v10 = .int .u64 b ∧ v87 = .int .i64 (i : Int) ∧ Aside0 (i + kq = n + 2) ∧ Aside0 (SbI V Y q i c b Y9) ∧ Aside0 (Two w0 w' gu gv N cu (n + 2) cv P Z Y9 V))
    case atStart => exact ⟨0, 0, 0, Y, rfl, rfl, rfl, ⟨by omega⟩, HS0, HT⟩
    case round =>
      clear HT HS0
      obtain ⟨i, c, b, Y9, rfl, rfl, rfl, HK, HI, HT⟩ := hrel
      have hc0 := HI.out.c0
      have hc1 := HI.out.c1
      have hb0 := HI.out.b0
      have hb1 := HI.out.b1
      cases gk with
      | zero =>
        have hi : i = n + 2 := HK.out
        subst hi
        have htwo := HI.out.two HD.out.2.2.1 HD.out.2.2.2 HD.out.1 HG.out
        have hlz : Y9.length = n + 3 := by rw [HI.out.len]; exact HD.out.2.2.2
        obtain ⟨hu, hf⟩ := HT.out.ucell (n + 2) (by omega)
        have hz := HI.out.dg.getD (by decide) (n + 2)
        rcases htwo with ⟨he, h0⟩ | ⟨he, h0⟩
        · have HF := Aside0.mk (HI.out.fin HD.out.2.2.1 HD.out.2.2.2 HG.out he)
          have HLN := Aside0.mk (show n + 2 < Y9.length by omega)
          have hd : IntKind.u64.wrap (IntKind.u64.wrap (Y9.getD (n + 2) 0 - c) - b) = 0 := by
            rw [u64m, u64m]
            omega
          generalize hun : Y9.getD (n + 2) 0 = un at hu hd he hz
          obtain ⟨hz0, hz1⟩ := hz
          have hd2 : ((0 : Int) / 9223372036854775808 == 0) = true := by decide
          clear h0 he hlz hun
          go_wp2_with fail
          go_ret
          exact ⟨q, Y9.set (n + 2) 0, rfl, HT.out.put hne (n + 2) HLN.out 0, HF.out.1, HF.out.2.1, q0, q1, HF.out.2.2.1, HF.out.2.2.2⟩
        · have htp := HI.out.top HD.out.2.2.1 HD.out.2.2.2
          rw [he, Int.neg_mul, Int.one_mul, ← Int.sub_eq_add_neg] at htp
          have hd : IntKind.u64.wrap (IntKind.u64.wrap (Y9.getD (n + 2) 0 - c) - b) = 18446744073709551615 := by
            rw [u64m, u64m]
            omega
          have q2 : 1 ≤ q := by
            rcases (show q = 0 ∨ 1 ≤ q by omega) with e | e
            · have := dv_nonneg (by decide) HD.out.2.1
              rw [e] at h0
              omega
            · exact e
          have hz9 : dv 4294967296 ((Y9.set (n + 2) 4294967295).take (n + 2)) = dv 4294967296 (Y9.take (n + 2)) := by rw [take_set]
          rw [← hz9] at htp
          have HA0 := Aside0.mk (show AbI V (Y9.set (n + 2) 4294967295) 0 0 (Y9.set (n + 2) 4294967295) from ⟨by omega, by omega, HI.out.dg.set _ (by omega) (by omega), rfl, by simp [dv, pw], fun _ _ => rfl⟩)
          have HT3 := Aside0.mk (HT.out.put hne (n + 2) (by omega) 4294967295)
          have HL1 := Aside0.mk (show (Y9.set (n + 2) 4294967295).length = n + 3 by simp; omega)
          have HZ9 := Aside0.mk (show (Y9.set (n + 2) 4294967295).getD (n + 2) 0 = 4294967295 from getD_set_self (by omega))
          have HTP := Aside0.mk htp
          have H0 := Aside0.mk h0
          obtain ⟨hz0, hz1⟩ := hz
          generalize hun : Y9.getD (n + 2) 0 = un at hu hd hz0 hz1
          have hd2 : ((18446744073709551615 : Int) / 9223372036854775808 == 0) = false := by decide
          clear h0 he hlz hun hz9 htp HT
          generalize hZ1 : Y9.set (n + 2) 4294967295 = Z1 at *
          clear hZ1
          go_wp2_with fail
          go_loopg [15, 140] (n + 2) (fun kq v15 v140 w' => ∃ (i : Nat) (c : Int) (Y9 : List Int), v15 = .int .u64 c ∧ v140 = .int .i64 (i : Int) ∧ Aside0 (i + kq = n + 2) ∧ Aside0 (AbI V Z1 i c Y9) ∧ Aside0 (Two w0 w' gu gv N cu (n + 2) cv P Z Y9 V))
          case atStart => exact ⟨0, 0, Z1, rfl, rfl, ⟨by omega⟩, HA0, HT3⟩
          case round =>
            clear HT3 HA0 hu hf hd hd2 HI hz0 hz1 HK hc0 hc1 hb0 hb1
            obtain ⟨i, c, Y9, rfl, rfl, HK, HI, HT⟩ := hrel
            have hc0 := HI.out.c0
            have hc1 := HI.out.c1
            cases gk with
            | zero =>
              have hi : i = n + 2 := HK.out
              subst hi
              have HF := Aside0.mk (HI.out.fin HD.out.2.2.1 HL1.out HG.out H0.out HTP.out)
              obtain ⟨hu, hf⟩ := HT.out.ucell (n + 2) (by rw [HI.out.len, HL1.out]; omega)
              have hce : c = 1 := HF.out.1
              subst hce
              have HLN := Aside0.mk (show n + 2 < Y9.length by rw [HI.out.len, HL1.out]; omega)
              rw [HI.out.same (n + 2) (Nat.le_refl _), HZ9.out] at hu
              have hb9 : decide ((n : Int) + 2 < (n : Int) + 2) = false := decide_eq_false (by omega)
              go_wp2_with fail
              go_ret
              exact ⟨q - 1, Y9.set (n + 2) 0, rfl, HT.out.put hne (n + 2) HLN.out 0, HF.out.2.1, HF.out.2.2.1, by omega, by omega, HF.out.2.2.2.1, HF.out.2.2.2.2⟩
            | succ k1 =>
              have hi : i < n + 2 := by have := HK.out; omega
              have hb9 : decide (i < n + 2) = true := decide_eq_true hi
              have hzl : Y9.length = n + 3 := by rw [HI.out.len]; exact HL1.out
              have hv := HT.out.vcell i hi
              obtain ⟨hu, hf⟩ := HT.out.ucell i (by omega)
              have hst := HI.out.step HD.out.1 (by omega)
              have hz := HI.out.dg.getD (by decide) i
              have hy := HD.out.1.getD (by decide) i
              generalize V.getD i 0 = y at hv hst hy
              generalize Y9.getD i 0 = u at hu hst hz
              obtain ⟨hz0, hz1⟩ := hz
              obtain ⟨hy0, hy1⟩ := hy
              have HST := Aside0.mk hst
              have HLN := Aside0.mk (show i < Y9.length by omega)
              clear hst hzl
              go_wp2_with fail
              go_roundg k1
              case measure => omega
              case rel =>
                exact ⟨i + 1, _, _, rfl, by simp, ⟨by have := HK.out; omega⟩, HST, ⟨HT.out.put hne i HLN.out _⟩⟩
      | succ k1 =>
        have hi : i < n + 2 := by have := HK.out; omega
        have hb0 : decide (i < n + 2) = true := decide_eq_true hi
        have hzl : Y9.length = n + 3 := by rw [HI.out.len]; exact HD.out.2.2.2
        have hv := HT.out.vcell i hi
        obtain ⟨hu, hf⟩ := HT.out.ucell i (by omega)
        have hst := HI.out.step HD.out.1 q0 q1 (by omega)
        have hz := HI.out.dg.getD (by decide) i
        have hy := HD.out.1.getD (by decide) i
        generalize V.getD i 0 = y at hv hst hy
        generalize Y9.getD i 0 = u at hu hst hz
        obtain ⟨hz0, hz1⟩ := hz
        obtain ⟨hy0, hy1⟩ := hy
        obtain ⟨hp0, hp1⟩ := mul_lt_sq q0 q1 hy0 hy1
        have HST := Aside0.mk hst
        have HLN := Aside0.mk (show i < Y9.length by omega)
        clear hst hzl
        go_wp2_with fail
        go_roundg k1
        case measure => omega
        case rel =>
          refine ⟨i + 1, _, _, _, rfl, rfl, by simp, ⟨by have := HK.out; omega⟩, HST, ⟨HT.out.put hne i HLN.out _⟩⟩
end Go.Proofs.Ytpbhepdgamoiaaa.Ng

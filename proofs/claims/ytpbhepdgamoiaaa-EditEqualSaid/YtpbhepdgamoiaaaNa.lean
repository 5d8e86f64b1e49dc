/-
  The sum of limbs: the walk of num.addMag.
-/
import Derived.Test.YtpbhepdgamoiaaaNc
import Derived.Outline
namespace Go.Proofs.Ytpbhepdgamoiaaa.Na
open Go.RowKit Go Go.Proofs.YtpbhepdgamoiaaaW.PrintWords Go.Proofs.YtpbhepdgamoiaaaW.PrintLast Go.Proofs.YtpbhepdgamoiaaaW.PrintMore Go.Proofs.Ytpbhepdgamoiaaa.Ml Go.Proofs.Ytpbhepdgamoiaaa.Mn Go.Proofs.Ytpbhepdgamoiaaa.Nd Go.Proofs.Ytpbhepdgamoiaaa.P Go.Proofs.Ytpbhepdgamoiaaa.Nc
set_option linter.unusedVariables false
set_option linter.unusedSimpArgs false

structure AddI (x y : List Int) (i : Nat) (c : Int) (out : List Int) : Prop where
  c0 : 0 ≤ c
  c1 : c ≤ 1
  dg : Dg 4294967296 out
  len : out.length = x.length + 1
  val : dv 4294967296 out + c * pw 4294967296 i = dv 4294967296 (x.take i) + dv 4294967296 (y.take i)
  zero : ∀ m, i ≤ m → out.getD m 0 = 0
theorem AddI.start (x y : List Int) : AddI x y 0 0 (List.replicate (x.length + 1) 0) :=
  ⟨by omega, by omega, Dg.replicate (by decide) _, by simp, by rw [dv_replicate]; simp [dv], fun m _ => by
    rw [List.getD_eq_getElem?_getD, List.getElem?_replicate]
    split <;> rfl⟩
theorem AddI.step {x y : List Int} {i : Nat} {c : Int} {out : List Int} (h : AddI x y i c out) (hx : Dg 4294967296 x) (hy : Dg 4294967296 y) (hi : i < x.length) :
    AddI x y (i + 1) ((c + x.getD i 0 + y.getD i 0) / 4294967296) (out.set i ((c + x.getD i 0 + y.getD i 0) % 4294967296)) := by
  have h1 := hx.getD (by decide) i
  have h2 := hy.getD (by decide) i
  have h3 := h.c0
  have h4 := h.c1
  obtain ⟨s, hs⟩ : ∃ s, s = c + x.getD i 0 + y.getD i 0 := ⟨_, rfl⟩
  rw [← hs]
  refine ⟨by omega, by omega, h.dg.set _ (by omega) (by omega), by simpa using h.len, ?_, fun m hm => by rw [getD_set (by omega)]; exact h.zero m (by omega)⟩
  have h5 := h.val
  rw [dv_set _ _ _ _ (by have := h.len; omega), h.zero i (Nat.le_refl _), dv_take_succ', dv_take_succ', pw_succ]
  have h6 : s % 4294967296 = s - 4294967296 * (s / 4294967296) := by omega
  rw [h6]
  generalize s / 4294967296 = q
  rw [hs]
  grind
theorem AddI.done {x y : List Int} {c : Int} {out : List Int} (h : AddI x y x.length c out) (hy : y.length ≤ x.length) : Dg 4294967296 (out.set x.length c) ∧ dv 4294967296 (out.set x.length c) = dv 4294967296 x + dv 4294967296 y ∧ (out.set x.length c).length = x.length + 1 := by
  have h1 := h.val
  have h3 := h.c0
  have h4 := h.c1
  rw [List.take_of_length_le (Nat.le_refl _), List.take_of_length_le hy] at h1
  refine ⟨h.dg.set _ (by omega) (by omega), ?_, by simpa using h.len⟩
  rw [dv_set _ _ _ _ (by have := h.len; omega), h.zero _ (Nat.le_refl _)]
  rw [← h1]
  grind

set_option maxHeartbeats 4000000 in
set_option maxRecDepth 100000 in
theorem addMag_n (va vb : Value) (la lb : List Int) (w : World) (ha : Mag w va la) (hb : Mag w vb lb) (da : Dg 4294967296 la) (db : Dg 4294967296 lb) (hn : la.length ≤ 1000000) (hm : lb.length ≤ 1000000) :
    Calls Try.prog 115 #[va, vb] w fun e w' => ∃ v r, e = .returned v ∧ Mag w' v r ∧ Cn 4294967296 r ∧ dv 4294967296 r = dv 4294967296 la + dv 4294967296 lb ∧ r.length ≤ max la.length lb.length + 1 ∧ Below w.heap.size w w' := by
  obtain ⟨A0, c0, rfl, hc0, hr0⟩ := ha.slice
  obtain ⟨A1, c1, rfl, hc1, hr1⟩ := hb.slice
  obtain ⟨Ax, cx, x, Ay, cy, y, hcx, hcy, HX, HY, hnx, hny, dx, dy, hle, hsum, hmax, hxy⟩ : ∃ Ax cx x Ay cy y, x.length ≤ cx ∧ y.length ≤ cy ∧ (Kd.int .u32).C w Ax x.length x ∧ (Kd.int .u32).C w Ay y.length y ∧ x.length ≤ 1000000 ∧ y.length ≤ 1000000 ∧ Dg 4294967296 x ∧ Dg 4294967296 y ∧ y.length ≤ x.length ∧
      dv 4294967296 x + dv 4294967296 y = dv 4294967296 la + dv 4294967296 lb ∧ x.length + 1 ≤ max la.length lb.length + 1 ∧
      ((la.length < lb.length ∧ Ax = A1 ∧ cx = c1 ∧ x = lb ∧ Ay = A0 ∧ cy = c0 ∧ y = la) ∨ (¬ la.length < lb.length ∧ Ax = A0 ∧ cx = c0 ∧ x = la ∧ Ay = A1 ∧ cy = c1 ∧ y = lb)) := by
    rcases Nat.lt_or_ge la.length lb.length with h | h
    · exact ⟨A1, c1, lb, A0, c0, la, hc1, hc0, hr1, hr0, hm, hn, db, da, by omega, by omega, by omega, .inl ⟨h, rfl, rfl, rfl, rfl, rfl, rfl⟩⟩
    · exact ⟨A0, c0, la, A1, c1, lb, hc0, hc1, hr0, hr1, hn, hm, da, db, by omega, by omega, by omega, .inr ⟨by omega, rfl, rfl, rfl, rfl, rfl, rfl⟩⟩
  generalize dv 4294967296 la + dv 4294967296 lb = S at hsum ⊢
  generalize max la.length lb.length + 1 = M at hmax ⊢
  have HS := Aside0.mk (show Dg 4294967296 x ∧ Dg 4294967296 y ∧ dv 4294967296 x + dv 4294967296 y = S from ⟨dx, dy, hsum⟩)
  have HXa := Aside0.mk HX
  have HYa := Aside0.mk HY
  clear hsum dx dy da db ha hb hc0 hc1 hr0 hr1 hn hm HX HY
  have hlen : 0 ≤ (x.length : Int) + 1 := by omega
  rcases hxy with ⟨h, rfl, rfl, rfl, rfl, rfl, rfl⟩ | ⟨h, rfl, rfl, rfl, rfl, rfl, rfl⟩
  all_goals
    go_enter Try.func115, Try.ntmps115
    go_wp2_with ((with_reducible refine gate_dst (N := 19) rfl ?_); refine Kd.R_make (Kd.int .u32) _ 157 rfl (N := 19) rfl 84 _ _ rfl ((x.length : Int) + 1) rfl rfl Try.underlying84 (.int .u32 0) 4 info157 rfl (by decide) (by omega) 0 (ok := fun _ => True) (okp := fun _ => True) rfl (fun _ hk => hk) trivial hlen (by omega) (Below.refl _ _) (Nat.le_refl _) ?_; intro v w5 ho hb hg_ hnew_; clear hg_ hnew_; have HO := Aside0.mk ho; have HB := Aside0.mk hb; clear ho hb)
    obtain ⟨go, co, eo, gb, _, _⟩ := Kd.R_form HO.out (by simp)
    have eo2 : v = .slice (some ⟨go, 0, none⟩) (x.length + 1) co := by rw [eo]; simp
    have HO2 := Aside0.mk (show ∃ out, AddI x y 0 0 out ∧ Kd.R (Kd.int .u32) 157 w5 w.heap.size (fun _ => True) (.slice (some ⟨go, 0, none⟩) (x.length + 1) co) out from ⟨_, AddI.start x y, by have := HO.out; rw [eo2] at this; simpa using this⟩)
    subst eo2
    clear HO eo
    go_loopg [6, 22] x.length (fun kq v6 v22 w' => ∃ (i : Nat) (c : Int) (out : List Int), v6 = .int .u64 c ∧ v22 = .int .i64 (i : Int) ∧ Aside0 (i + kq = x.length) ∧ Aside0 (AddI x y i c out) ∧ Aside0 (Kd.R (Kd.int .u32) 157 w' w.heap.size (fun _ => True) (.slice (some ⟨go, 0, none⟩) (x.length + 1) co) out) ∧ Aside0 (Below w.heap.size w w'))
    case atStart =>
      obtain ⟨out, h1, h2⟩ := HO2.out
      exact ⟨0, 0, out, rfl, rfl, ⟨by omega⟩, ⟨h1⟩, ⟨h2⟩, HB⟩
    case round =>
      clear HO2 HB
      obtain ⟨i, c, out, rfl, rfl, HK, HI, HO, HB⟩ := hrel
      cases gk with
      | zero =>
        have hi : i = x.length := HK.out
        have hb0 : decide (i < x.length) = false := decide_eq_false (by omega)
        obtain ⟨hy1, hz1⟩ := own_cell HO.out x.length (by omega)
        have hc0 := HI.out.c0
        have hc1 := HI.out.c1
        have HI2 := Aside0.mk hi
        clear hi
        have hd := (show AddI x y x.length c out from HI2.out ▸ HI.out).done hle
        have HD := Aside0.mk hd
        clear hd
        go_wp2_with fail
        refine (trim_n _ (out.set x.length c) _ _ _ (own_put HO.out x.length c) HD.out.1 (by rw [HD.out.2.2]; omega)).mono ?_
        rintro e w1 ⟨v, r, rfl, hM, hc, hv, hn, hb2⟩
        have HV := Aside0.mk hv
        have HN := Aside0.mk hn
        clear hv hn
        go_wp2_with fail
        go_ret
        exact ⟨v, r, rfl, hM, hc, by rw [HV.out, HD.out.2.1, HS.out.2.2], by have := HN.out; rw [HD.out.2.2] at this; omega, (HB.out.setCell gb _).trans (hb2.mono (HB.out.setCell gb _).size)⟩
      | succ k1 =>
        have hi : i < x.length := by have := HK.out; omega
        have hb0 : decide (i < x.length) = true := decide_eq_true hi
        obtain ⟨adx, ex, hxc⟩ := mag_cell HXa.out HB.out i hi
        obtain ⟨hy1, hz1⟩ := own_cell HO.out i (by omega)
        have hdx := HS.out.1.getD (by decide) i
        have hdy := HS.out.2.1.getD (by decide) i
        have hc0 := HI.out.c0
        have hc1 := HI.out.c1
        cases ex
        have hst := HI.out.step HS.out.1 HS.out.2.1 hi
        generalize hxi : x.getD i 0 = xi at hxc hdx hst
        generalize hyi : y.getD i 0 = yi at hdy hst
        have HT := Aside0.mk hst
        have HYI := Aside0.mk hyi
        obtain ⟨hdx0, hdx1⟩ := hdx
        obtain ⟨hdy0, hdy1⟩ := hdy
        clear hst hyi hxi
        by_cases hy : i < y.length
        · obtain ⟨ady, ey, hyc⟩ := mag_cell HYa.out HB.out i hy
          cases ey
          rw [HYI.out] at hyc
          go_wp2_with fail
          go_roundg k1
          case measure => omega
          case rel =>
            exact ⟨i + 1, _, _, rfl, by simp, ⟨by have := HK.out; omega⟩, HT, ⟨own_put HO.out i _⟩, ⟨HB.out.setCell gb _⟩⟩
        · have hy0 : yi = 0 := by rw [← HYI.out]; exact getD_ge (by omega)
          have HY0 := Aside0.mk hy0
          clear hy0
          go_wp2_with fail
          go_roundg k1
          case measure => omega
          case rel =>
            have e0 : c + xi + yi = c + xi := by have := HY0.out; omega
            rw [e0] at HT
            exact ⟨i + 1, _, _, rfl, by simp, ⟨by have := HK.out; omega⟩, HT, ⟨own_put HO.out i _⟩, ⟨HB.out.setCell gb _⟩⟩
end Go.Proofs.Ytpbhepdgamoiaaa.Na

/-
  What the calls of package num do to numbers in memory: set, SetInt64, NewInt, Mul. The sum of limbs: the walk of num.addMag. What the calls of package num do to numbers in memory: CmpAbs, Cmp, Sign, Int64, Add, Sub. Limbs moved up by some bits: the walk of num.shift. Plain: the step of long division that guesses a digit from the highest digits (base 2^32). A digit of a quotient: the walk of num.digit. How many zero bits a number of 32 bits begins with: the shelf's contract at this program. Limbs divided: what the quotient and the rest come to, a clone of limbs, and the walk of num.divMag. Limbs divided by two limbs and more: the walk of num.divMag, and what it comes to. Limbs divided by two limbs and more: the walk of num.divMag. What the calls of package num do to numbers in memory: QuoRem, Sub, Sign, Int64. What the calls of package num do to numbers in memory: Lsh by one bit, Div. exact's functions of whole numbers: what they compute, and the walks of the small ones.
-/
import Derived.Test.YtekommcfpjonmaaGreatQREditBacka
import Derived.Outline
import Derived.Deep.DeepCutAuto
import Derived.Deep.CutBlock
import Derived.Shelf.Small.Bits
import Derived.Test.YtekommcfpjonmaaGreatProg
import Derived.Lib.ItoaNum
import Derived.Lib.SliceRun
import Derived.Laws.MakeOwn
set_option linter.unusedVariables false
set_option linter.unusedSimpArgs false
set_option maxHeartbeats 16000000
set_option maxRecDepth 100000
namespace Go.Proofs.YtekommcfpjonmaaGreat.Nc
open RowKit Go YtekommcfpjonmaaGreatW.PrintWords YtekommcfpjonmaaGreatW.PrintLast YtekommcfpjonmaaGreatW.PrintMore Ml Mn Nd Z P
theorem set_w (g o : Nat) (A : Option Addr) (n c : Nat) (neg neg0 : Bool) (v0 : Value) (w : World) (hs : Slot w g o neg0 v0) :
  Calls Tryz.prog 136 #[.pointer (some ⟨g, o, none⟩), .bool neg, .slice A n c] w fun e w' => e = .returned (.pointer (some ⟨g, o, none⟩)) ∧ ∃ k, ((w.setCell ⟨g, o, none⟩ (.bool (neg && decide (0 < n)))).setCell ⟨g, o + 1, none⟩ (.slice A n c)).drewN k = w' := by
 have h0 := hs.cell0
 have h1 := hs.cell1
 have f0 := hs.free o
 have f1 := hs.free (o + 1)
 clear hs
 cases neg
 all_goals
  go_enter Tryz.func136, Tryz.ntmps136
  go_wp2
  go_ret
  exact ⟨rfl, 0, rfl⟩
theorem set_n (g o : Nat) (v : Value) (l : List Int) (neg : Bool) (n : Nat) (w : World) (hr : Room w g o) (hm : Mag w v l) (hc : Cn 4294967296 l) (hn : l.length ≤ n) :
  Calls Tryz.prog 136 #[.pointer (some ⟨g, o, none⟩), .bool neg, v] w (SetP w g o (sg neg (dv 4294967296 l)) n) := by
 obtain ⟨neg0, v0, hs⟩ := hr
 obtain ⟨A, c, rfl, _, _⟩ := hm.slice
 refine (set_w g o A l.length c neg neg0 v0 w hs).mono ?_
 rintro e w' ⟨rfl, k, rfl⟩
 obtain ⟨hw, hs'⟩ := Wrote.set hs (neg && decide (0 < l.length)) A l.length c k rfl
 refine ⟨rfl, hw, _, _, l, hs', hw.mag ⟨_, _, hs⟩ hm, hc, hn, ?_, ?_⟩
 ·cases l with
  | nil => cases neg <;> simp [dv, sg]
  | cons x l => cases neg <;> simp
 cases l with
 | nil => simp
 | cons x l => simp
theorem room_new (w : World) : Room (w.alloc (.cells #[.bool false, .slice none 0 0] 119)) w.heap.size 0 :=
 ⟨false, .slice none 0 0, ⟨#[.bool false, .slice none 0 0], 119, blk_new w _, ⟨none, 0, 0, rfl⟩, rfl, rfl⟩⟩
theorem setInt_n (g o : Nat) (z : Int) (w : World) (hr : Room w g o) (h0 : -9223372036854775808 ≤ z) (h1 : z ≤ 9223372036854775807) :
  Calls Tryz.prog 128 #[.pointer (some ⟨g, o, none⟩), .int .i64 z] w (SetP w g o z 2) := by
 by_cases hz : z < 0
 ·obtain ⟨r, hf, hc, hv, hn⟩ := magOf_f (-z) (by omega) (by omega)
  have e1 : IntKind.u64.wrap (-IntKind.u64.wrap z) = -z := by rw [u64m, u64m]; omega
  have HR := Lib.hid hr
  have HE := Lib.hid e1
  clear hr e1
  go_enter Tryz.func128, Tryz.ntmps128
  go_wp2_with fail
  rw [HE.out]
  refine (num_magOf.calls 3 (-z) r w hf).mono ?_
  rintro e w1 ⟨v, rfl, hV, hb⟩
  go_wp2_with fail
  refine (set_n g o v r true 2 w1 (HR.out.below hb) (Mag.of hV) hc hn).mono ?_
  rintro e w2 ⟨rfl, hw, hN⟩
  go_wp2_with fail
  go_ret
  exact ⟨rfl, (Wrote.of_below hb g o).trans hw, by simpa [hv, sg] using hN⟩
 obtain ⟨r, hf, hc, hv, hn⟩ := magOf_f z (by omega) (by omega)
 have HR := Lib.hid hr
 clear hr
 go_enter Tryz.func128, Tryz.ntmps128
 go_wp2_with fail
 refine (num_magOf.calls 3 z r w hf).mono ?_
 rintro e w1 ⟨v, rfl, hV, hb⟩
 go_wp2_with fail
 refine (set_n g o v r false 2 w1 (HR.out.below hb) (Mag.of hV) hc hn).mono ?_
 rintro e w2 ⟨rfl, hw, hN⟩
 go_wp2_with fail
 go_ret
 exact ⟨rfl, (Wrote.of_below hb g o).trans hw, by simpa [hv, sg] using hN⟩
theorem newInt_n (z : Int) (w : World) (h0 : -9223372036854775808 ≤ z) (h1 : z ≤ 9223372036854775807) :
  Calls Tryz.prog 82 #[.int .i64 z] w (NewP w z 2) := by
 go_enter Tryz.func82, Tryz.ntmps82
 go_wp2_with fail
 refine (setInt_n w.heap.size 0 z _ (room_new w) h0 h1).mono ?_
 rintro e w1 ⟨rfl, hw, hN⟩
 go_wp2_with fail
 go_ret
 exact ⟨_, Nat.le_refl _, rfl, (below_alloc (Below.refl _ w) _).trans (hw.below (Nat.le_refl _) (by simp)), hN⟩
theorem mul_n (gx ox ga oa gb ob : Nat) (a b : Int) (na nb : Nat) (w : World) (hx : Room w gx ox) (ha : IsN w ga oa a na) (hb : IsN w gb ob b nb) (hl : na + nb ≤ 1000) :
  Calls Tryz.prog 127 #[.pointer (some ⟨gx, ox, none⟩), .pointer (some ⟨ga, oa, none⟩), .pointer (some ⟨gb, ob, none⟩)] w (SetP w gx ox (a * b) (na + nb)) := by
 obtain ⟨nega, va, la, sa, ma, ca, hla, hza, qa⟩ := ha.at_
 obtain ⟨negb, vb, lb, sb, mb, cb, hlb, hzb, qb⟩ := hb.at_
 have hz : sg (!nega == negb) (dv 4294967296 la * dv 4294967296 lb) = a * b := by rw [sg_mul, hza, hzb]
 clear hza hzb
 obtain ⟨Aa, cca, rfl, hca, ra⟩ := ma.slice
 obtain ⟨Ab, ccb, rfl, hcb, rb⟩ := mb.slice
 obtain ⟨k, r, hf, hc, hv, hn⟩ := mul_f la lb ca.dg cb.dg (by omega)
 have a0 := sa.cell0
 have a1 := sa.cell1
 have b0 := sb.cell0
 have b1 := sb.cell1
 rw [← hv] at hz
 have HZ := Lib.hid hz
 clear ha hb hz hv
 go_enter Tryz.func127, Tryz.ntmps127
 go_wp2_with fail
 refine start_ (n := 21) (S := fun w' => w'.cell? ⟨ga, oa, none⟩ = some (.bool nega) ∧ w'.cell? ⟨ga, oa + 1, none⟩ = some (.slice Aa la.length cca) ∧ w'.cell? ⟨gb, ob, none⟩ = some (.bool negb) ∧ w'.cell? ⟨gb, ob + 1, none⟩ = some (.slice Ab lb.length ccb)) (ds := [19]) (bs 21 0) (by kernel_rfl) rfl rfl ⟨a0, a1, b0, b1⟩ (fun hHeld => ?_)
 refine zP 0 7 21 1 ?_
 refine zP 1 8 21 3 ?_
 refine zP 2 9 21 7 ?_
 refine zP 3 10 21 15 ?_
 refine zP 5 12 21 47 ?_
 refine zP 6 13 21 111 ?_
 refine zP 7 14 21 239 ?_
 refine zP 10 17 21 1263 ?_
 refine zP 11 18 21 3311 ?_
 refine zP 12 19 21 7407 ?_
 refine zP 14 21 21 23791 ?_
 refine zP 15 22 21 56559 ?_
 refine zP 16 23 21 122095 ?_
 refine zT 4 11 21 122111 hHeld ?_
 refine zT 8 15 21 122367 hHeld ?_
 refine zP 9 16 21 122879 ?_
 refine zT 13 20 21 131071 hHeld ?_
 refine zT 17 24 21 262143 hHeld ?_
 refine zN 18 (some 25) 21 524287 (fun K hK => ?_)
 refine zG Tryz.func156 #[.slice Aa la.length cca, .slice Ab lb.length ccb] ?_
 with_reducible refine (num_mulMag.calls k Aa cca la Ab ccb lb r _ (Kd.C_drew ra) hca (Kd.C_drew rb) hcb hf).mono ?_
 rintro e w1 ⟨v, rfl, hV, hb⟩
 refine ⟨_, rfl, ?_⟩
 have hb' := below_drew' hb
 refine hK.out _ _ ⟨(sa.below hb').cell0, (sa.below hb').cell1, (sb.below hb').cell0, (sb.below hb').cell1⟩ (fun hHeld => ?_)
 clear hK K
 refine zM 25 ?_
 refine zL 19 (some 26) 21 1048575 (fun K hK => ?_)
 refine zG Tryz.func136 #[.pointer (some ⟨gx, ox, none⟩), .bool (!nega == negb), v] ?_
 with_reducible refine (set_n gx ox v r (!nega == negb) (na + nb) w1 (hx.below hb') (Mag.of hV) hc (by omega)).mono ?_
 rintro e w2 ⟨rfl, hw, hN⟩
 refine ⟨_, rfl, ?_⟩
 refine hK.out _ _ ?_
 clear hK K
 refine zM 26 ?_
 refine zP 20 6 21 2097151 ?_
 refine done_ (by kernel_rfl) ?_
 go_wp2
 go_ret
 exact ⟨rfl, (Wrote.of_below hb' gx ox).trans hw, HZ.out ▸ hN⟩
theorem trim_n (v : Value) (l : List Int) (base : Nat) (ok : Nat → Prop) (w : World) (h : Kd.R (Kd.int .u32) 157 w base ok v l) (hd : Dg 4294967296 l) (hn : l.length ≤ 1099511627776) :
  Calls Tryz.prog 154 #[v] w fun e w' => ∃ v r, e = .returned v ∧ Mag w' v r ∧ Cn 4294967296 r ∧ dv 4294967296 r = dv 4294967296 l ∧ r.length ≤ l.length ∧ Below w.heap.size w w' := by
 obtain ⟨A, c, rfl⟩ := Kd.R_slice h
 obtain ⟨r, hf, hc, hv, hl⟩ := trim_f l hd hn (l.length + 1) (by omega)
 refine (num_trim.calls (l.length + 1) ok A c l r w (Kd.R_V h) hf).mono ?_
 rintro e w' ⟨v, rfl, hV, hb⟩
 exact ⟨v, r, rfl, Mag.of hV, hc, hv, hl, hb⟩
end Go.Proofs.YtekommcfpjonmaaGreat.Nc
namespace Go.Proofs.YtekommcfpjonmaaGreat.Na
open RowKit Go YtekommcfpjonmaaGreatW.PrintWords YtekommcfpjonmaaGreatW.PrintLast YtekommcfpjonmaaGreatW.PrintMore Ml Mn Nd Z P Nc
structure AddI (x y : List Int) (i : Nat) (c : Int) (out : List Int) : Prop where
 c0 : 0 ≤ c
 c1 : c ≤ 1
 dg : Dg 4294967296 out
 len : out.length = x.length + 1
 val : dv 4294967296 out + c * pw 4294967296 i = dv 4294967296 (x.take i) + dv 4294967296 (y.take i)
 zero : ∀ m, i ≤ m → out.getD m 0 = 0
theorem AddI.start (x y : List Int) : AddI x y 0 0 (List.replicate (x.length + 1) 0) :=
 ⟨by omega, by omega, Dg.replicate (by decide) _, by simp, by rw [dv_replicate]; simp [dv], fun m _ => by
  rw [List.getD_eq_getElem?_getD, List.getElem?_replicate]
  split <;> rfl⟩
theorem AddI.step {x y : List Int} {i : Nat} {c : Int} {out : List Int} (h : AddI x y i c out) (hx : Dg 4294967296 x) (hy : Dg 4294967296 y) (hi : i < x.length) :
  AddI x y (i + 1) ((c + x.getD i 0 + y.getD i 0) / 4294967296) (out.set i ((c + x.getD i 0 + y.getD i 0) % 4294967296)) := by
 have h1 := hx.getD (by decide) i
 have h2 := hy.getD (by decide) i
 have h3 := h.c0
 have h4 := h.c1
 obtain ⟨s, hs⟩ : ∃ s, s = c + x.getD i 0 + y.getD i 0 := ⟨_, rfl⟩
 rw [← hs]
 refine ⟨by omega, by omega, h.dg.set _ (by omega) (by omega), by simpa using h.len, ?_, fun m hm => by rw [getD_set (by omega)]; exact h.zero m (by omega)⟩
 have h5 := h.val
 rw [dv_set _ _ _ _ (by have := h.len; omega), h.zero i (Nat.le_refl _), dv_take_succ', dv_take_succ', pw_succ]
 have h6 : s % 4294967296 = s - 4294967296 * (s / 4294967296) := by omega
 rw [h6]
 generalize s / 4294967296 = q
 rw [hs]
 grind
theorem AddI.done {x y : List Int} {c : Int} {out : List Int} (h : AddI x y x.length c out) (hy : y.length ≤ x.length) : Dg 4294967296 (out.set x.length c) ∧ dv 4294967296 (out.set x.length c) = dv 4294967296 x + dv 4294967296 y ∧ (out.set x.length c).length = x.length + 1 := by
 have h1 := h.val
 have h3 := h.c0
 have h4 := h.c1
 rw [List.take_of_length_le (Nat.le_refl _), List.take_of_length_le hy] at h1
 refine ⟨h.dg.set _ (by omega) (by omega), ?_, by simpa using h.len⟩
 rw [dv_set _ _ _ _ (by have := h.len; omega), h.zero _ (Nat.le_refl _)]
 rw [← h1]
 grind
theorem addMag_n (va vb : Value) (la lb : List Int) (w : World) (ha : Mag w va la) (hb : Mag w vb lb) (da : Dg 4294967296 la) (db : Dg 4294967296 lb) (hn : la.length ≤ 1000000) (hm : lb.length ≤ 1000000) :
  Calls Tryz.prog 137 #[va, vb] w fun e w' => ∃ v r, e = .returned v ∧ Mag w' v r ∧ Cn 4294967296 r ∧ dv 4294967296 r = dv 4294967296 la + dv 4294967296 lb ∧ r.length ≤ max la.length lb.length + 1 ∧ Below w.heap.size w w' := by
 obtain ⟨A0, c0, rfl, hc0, hr0⟩ := ha.slice
 obtain ⟨A1, c1, rfl, hc1, hr1⟩ := hb.slice
 obtain ⟨Ax, cx, x, Ay, cy, y, hcx, hcy, HX, HY, hnx, hny, dx, dy, hle, hsum, hmax, hxy⟩ : ∃ Ax cx x Ay cy y, x.length ≤ cx ∧ y.length ≤ cy ∧ (Kd.int .u32).C w Ax x.length x ∧ (Kd.int .u32).C w Ay y.length y ∧ x.length ≤ 1000000 ∧ y.length ≤ 1000000 ∧ Dg 4294967296 x ∧ Dg 4294967296 y ∧ y.length ≤ x.length ∧
   dv 4294967296 x + dv 4294967296 y = dv 4294967296 la + dv 4294967296 lb ∧ x.length + 1 ≤ max la.length lb.length + 1 ∧
   ((la.length < lb.length ∧ Ax = A1 ∧ cx = c1 ∧ x = lb ∧ Ay = A0 ∧ cy = c0 ∧ y = la) ∨ (¬ la.length < lb.length ∧ Ax = A0 ∧ cx = c0 ∧ x = la ∧ Ay = A1 ∧ cy = c1 ∧ y = lb)) := by
  rcases Nat.lt_or_ge la.length lb.length with h | h
  ·exact ⟨A1, c1, lb, A0, c0, la, hc1, hc0, hr1, hr0, hm, hn, db, da, by omega, by omega, by omega, .inl ⟨h, rfl, rfl, rfl, rfl, rfl, rfl⟩⟩
  exact ⟨A0, c0, la, A1, c1, lb, hc0, hc1, hr0, hr1, hn, hm, da, db, by omega, by omega, by omega, .inr ⟨by omega, rfl, rfl, rfl, rfl, rfl, rfl⟩⟩
 generalize dv 4294967296 la + dv 4294967296 lb = S at hsum ⊢
 generalize max la.length lb.length + 1 = M at hmax ⊢
 have HS := aS (show Dg 4294967296 x ∧ Dg 4294967296 y ∧ dv 4294967296 x + dv 4294967296 y = S from ⟨dx, dy, hsum⟩)
 have HXa := aS HX
 have HYa := aS HY
 clear hsum dx dy da db ha hb hc0 hc1 hr0 hr1 hn hm HX HY
 have hlen : 0 ≤ (x.length : Int) + 1 := by omega
 rcases hxy with ⟨h, rfl, rfl, rfl, rfl, rfl, rfl⟩ | ⟨h, rfl, rfl, rfl, rfl, rfl, rfl⟩
 all_goals
  go_enter Tryz.func137, Tryz.ntmps137
  go_wp2_with ((with_reducible refine gate_dst (N := 19) rfl ?_); refine Kd.R_make (Kd.int .u32) _ 157 rfl (N := 19) rfl 117 _ _ rfl ((x.length : Int) + 1) rfl rfl Tryz.underlying117 (.int .u32 0) 4 info157 rfl (by decide) (by omega) 0 (ok := fun _ => True) (okp := fun _ => True) rfl (fun _ hk => hk) trivial hlen (by omega) (Below.refl _ _) (Nat.le_refl _) ?_; intro v w5 ho hb hg_ hnew_; clear hg_ hnew_; have HO := aS ho; have HB := aS hb; clear ho hb)
  obtain ⟨go, co, eo, gb, _, _⟩ := Kd.R_form HO.out (by simp)
  have eo2 : v = .slice (some ⟨go, 0, none⟩) (x.length + 1) co := by rw [eo]; simp
  have HO2 := aS (show ∃ out, AddI x y 0 0 out ∧ Kd.R (Kd.int .u32) 157 w5 w.heap.size (fun _ => True) (.slice (some ⟨go, 0, none⟩) (x.length + 1) co) out from ⟨_, AddI.start x y, by have := HO.out; rw [eo2] at this; simpa using this⟩)
  subst eo2
  clear HO eo
  go_loopg [6, 22] x.length (fun kq v6 v22 w' => ∃ (i : Nat) (c : Int) (out : List Int), v6 = .int .u64 c ∧ v22 = .int .i64 (i : Int) ∧ Aside0 (i + kq = x.length) ∧ Aside0 (AddI x y i c out) ∧ Aside0 (Kd.R (Kd.int .u32) 157 w' w.heap.size (fun _ => True) (.slice (some ⟨go, 0, none⟩) (x.length + 1) co) out) ∧ Aside0 (Below w.heap.size w w'))
  case atStart =>
   obtain ⟨out, h1, h2⟩ := HO2.out
   exact ⟨0, 0, out, rfl, rfl, ⟨by omega⟩, ⟨h1⟩, ⟨h2⟩, HB⟩
  case round =>
   clear HO2 HB
   obtain ⟨i, c, out, rfl, rfl, HK, HI, HO, HB⟩ := hrel
   cases gk with
   | zero =>
    have hi : i = x.length := HK.out
    have hb0 : decide (i < x.length) = false := decide_eq_false (by omega)
    obtain ⟨hy1, hz1⟩ := own_cell HO.out x.length (by omega)
    have hc0 := HI.out.c0
    have hc1 := HI.out.c1
    have HI2 := aS hi
    clear hi
    have hd := (show AddI x y x.length c out from HI2.out ▸ HI.out).done hle
    have HD := aS hd
    clear hd
    go_wp2_with fail
    refine (trim_n _ (out.set x.length c) _ _ _ (own_put HO.out x.length c) HD.out.1 (by rw [HD.out.2.2]; omega)).mono ?_
    rintro e w1 ⟨v, r, rfl, hM, hc, hv, hn, hb2⟩
    have HV := aS hv
    have HN := aS hn
    clear hv hn
    go_wp2_with fail
    go_ret
    exact ⟨v, r, rfl, hM, hc, by rw [HV.out, HD.out.2.1, HS.out.2.2], by have := HN.out; rw [HD.out.2.2] at this; omega, (HB.out.setCell gb _).trans (hb2.mono (HB.out.setCell gb _).size)⟩
   | succ k1 =>
    have hi : i < x.length := by have := HK.out; omega
    have hb0 : decide (i < x.length) = true := decide_eq_true hi
    obtain ⟨adx, ex, hxc⟩ := mag_cell HXa.out HB.out i hi
    obtain ⟨hy1, hz1⟩ := own_cell HO.out i (by omega)
    have hdx := HS.out.1.getD (by decide) i
    have hdy := HS.out.2.1.getD (by decide) i
    have hc0 := HI.out.c0
    have hc1 := HI.out.c1
    cases ex
    have hst := HI.out.step HS.out.1 HS.out.2.1 hi
    generalize hxi : x.getD i 0 = xi at hxc hdx hst
    generalize hyi : y.getD i 0 = yi at hdy hst
    have HT := aS hst
    have HYI := aS hyi
    obtain ⟨hdx0, hdx1⟩ := hdx
    obtain ⟨hdy0, hdy1⟩ := hdy
    clear hst hyi hxi
    by_cases hy : i < y.length
    ·obtain ⟨ady, ey, hyc⟩ := mag_cell HYa.out HB.out i hy
     cases ey
     rw [HYI.out] at hyc
     go_wp2_with fail
     go_roundg k1
     case measure => omega
     case rel =>
      exact ⟨i + 1, _, _, rfl, by simp, ⟨by have := HK.out; omega⟩, HT, ⟨own_put HO.out i _⟩, ⟨HB.out.setCell gb _⟩⟩
    have hy0 : yi = 0 := by rw [← HYI.out]; exact getD_ge (by omega)
    have HY0 := aS hy0
    clear hy0
    go_wp2_with fail
    go_roundg k1
    case measure => omega
    case rel =>
     have e0 : c + xi + yi = c + xi := by have := HY0.out; omega
     rw [e0] at HT
     exact ⟨i + 1, _, _, rfl, by simp, ⟨by have := HK.out; omega⟩, HT, ⟨own_put HO.out i _⟩, ⟨HB.out.setCell gb _⟩⟩
end Go.Proofs.YtekommcfpjonmaaGreat.Na
namespace Go.Proofs.YtekommcfpjonmaaGreat.Nb
open RowKit Go YtekommcfpjonmaaGreatW.PrintWords YtekommcfpjonmaaGreatW.PrintLast YtekommcfpjonmaaGreatW.PrintMore Ml Mn Nd Z P Nc Na
attribute [local go_sem] max2_int min2_int max_two min_two
theorem sign_n (c : Int) (w : World) : Calls Tryz.prog 129 #[.int .i64 c] w fun e w' => e = .returned (.int .i64 (cmpI c 0)) ∧ w = w' := by
 go_enter Tryz.func129, Tryz.ntmps129
 go_wp2
 all_goals
  go_ret
  refine ⟨?_, rfl⟩
  have h1 : ∀ x y : Int, x = y → Ending.returned (Value.int .i64 x) = Ending.returned (Value.int .i64 y) := fun _ _ h => by rw [h]
  refine h1 _ _ ?_
  unfold cmpI
  repeat' split
  all_goals first | omega | (split at * <;> omega)
theorem cmpMag_n (A0 : Option Addr) (c0 : Nat) (la : List Int) (A1 : Option Addr) (c1 : Nat) (lb : List Int) (w : World) (h0 : la.length ≤ c0) (r0 : Kd.C (Kd.int .u32) w A0 la.length la) (h1 : lb.length ≤ c1) (r1 : Kd.C (Kd.int .u32) w A1 lb.length lb) (ha : Cn 4294967296 la) (hb : Cn 4294967296 lb) (hn : la.length ≤ 1000000) (hm : lb.length ≤ 1000000) :
  Calls Tryz.prog 130 #[.slice A0 la.length c0, .slice A1 lb.length c1] w fun e w' => ∃ c, e = .returned (.int .i64 c) ∧ Sg c (dv 4294967296 la) (dv 4294967296 lb) ∧ Below w.heap.size w w' := by
 obtain ⟨c, hf, hs, _, _⟩ := cmp_f la lb ha hb (by omega) (by omega) (la.length + 1) (by omega)
 refine (num_cmpMag.calls (la.length + 1) A0 c0 la A1 c1 lb c w r0 h0 r1 h1 hf).mono ?_
 rintro e w' ⟨rfl, hd⟩
 exact ⟨c, rfl, hs, hd.below⟩
theorem Sg_cmp {c a b : Int} (h : Sg c a b) : cmpI c 0 = cmpI a b := by
 unfold Sg at h
 unfold cmpI
 repeat' split
 all_goals omega
theorem cmpAbs_n (ga oa gb ob : Nat) (a b : Int) (na nb : Nat) (w : World) (ha : IsN w ga oa a na) (hb : IsN w gb ob b nb) (hl : na + nb ≤ 1000) :
  Calls Tryz.prog 83 #[.pointer (some ⟨ga, oa, none⟩), .pointer (some ⟨gb, ob, none⟩)] w (ValP w (.int .i64 (cmpI (a.natAbs : Int) (b.natAbs : Int)))) := by
 obtain ⟨nega, Aa, cca, la, sa, hca, ra, ca, hla, hza, qa⟩ := ha.open
 obtain ⟨negb, Ab, ccb, lb, sb, hcb, rb, cb, hlb, hzb, qb⟩ := hb.open
 have eq1 := sg_abs (dv_nonneg (by decide) ca.dg) hza
 have eq2 := sg_abs (dv_nonneg (by decide) cb.dg) hzb
 rw [eq1, eq2]
 have a1 := sa.cell1
 have b1 := sb.cell1
 clear hza hzb eq1 eq2 ha hb
 go_enter Tryz.func83, Tryz.ntmps83
 go_wp2_with fail
 refine start_ (n := 11) (S := fun w' => w'.cell? ⟨ga, oa + 1, none⟩ = some (.slice Aa la.length cca) ∧ w'.cell? ⟨gb, ob + 1, none⟩ = some (.slice Ab lb.length ccb)) (ds := []) (bs 11 0) (by kernel_rfl) rfl rfl ⟨a1, b1⟩ (fun hHeld => ?_)
 refine zP 0 5 11 1 ?_
 refine zP 1 6 11 3 ?_
 refine zP 2 7 11 7 ?_
 refine zP 4 9 11 23 ?_
 refine zP 5 10 11 55 ?_
 refine zP 6 11 11 119 ?_
 refine zT 3 8 11 127 hHeld ?_
 refine zT 7 12 11 255 hHeld ?_
 refine zN 8 (some 13) 11 511 (fun K hK => ?_)
 refine zG Tryz.func130 #[.slice Aa la.length cca, .slice Ab lb.length ccb] ?_
 with_reducible refine (cmpMag_n Aa cca la Ab ccb lb _ hca (Kd.C_drew ra) hcb (Kd.C_drew rb) ca cb (by omega) (by omega)).mono ?_
 rintro e w1 ⟨c, rfl, hs, hd⟩
 refine ⟨_, rfl, ?_⟩
 have hb' := below_drew' hd
 refine hK.out _ _ ⟨(sa.below hb').cell1, (sb.below hb').cell1⟩ (fun hHeld => ?_)
 clear hK K
 refine zM 13 ?_
 refine zN 9 (some 14) 11 1023 (fun K hK => ?_)
 refine zG Tryz.func129 #[.int .i64 c] ?_
 with_reducible refine (sign_n c _).mono ?_
 rintro e w2 ⟨rfl, rfl⟩
 refine ⟨_, rfl, ?_⟩
 refine hK.out _ _ ⟨(sa.below hb').cell1, (sb.below hb').cell1⟩ (fun hHeld => ?_)
 clear hK K
 refine zM 14 ?_
 refine zP 10 4 11 2047 ?_
 refine done_ (by kernel_rfl) ?_
 have HS := aS hs
 clear hs
 go_wp2
 go_ret
 exact ⟨ret_i (Sg_cmp HS.out), hb'⟩
theorem cmp_n (ga oa gb ob : Nat) (a b : Int) (na nb : Nat) (w : World) (ha : IsN w ga oa a na) (hb : IsN w gb ob b nb) (hl : na + nb ≤ 1000) :
  Calls Tryz.prog 100 #[.pointer (some ⟨ga, oa, none⟩), .pointer (some ⟨gb, ob, none⟩)] w (ValP w (.int .i64 (cmpI a b))) := by
 obtain ⟨nega, Aa, cca, la, sa, hca, ra, ca, hla, hza, qa⟩ := ha.open
 obtain ⟨negb, Ab, ccb, lb, sb, hcb, rb, cb, hlb, hzb, qb⟩ := hb.open
 have pa := dv_nonneg (by decide) ca.dg
 have pb := dv_nonneg (by decide) cb.dg
 have HQ := aS (show (nega = true → 0 < dv 4294967296 la) ∧ (negb = true → 0 < dv 4294967296 lb) from ⟨fun h => dv_pos (by decide) ca (qa h), fun h => dv_pos (by decide) cb (qb h)⟩)
 have HP := aS (And.intro pa pb)
 have HZ := aS (And.intro hza hzb)
 have HA := aS (And.intro ha hb)
 have a0 := sa.cell0
 have b0 := sb.cell0
 clear hza hzb ha hb pa pb qa qb sa sb hca hcb ra rb ca cb hla hlb
 cases nega <;> cases negb
 ·go_enter Tryz.func100, Tryz.ntmps100
  go_wp2_with fail
  refine (cmpAbs_n ga oa gb ob a b na nb w HA.out.1 HA.out.2 hl).mono ?_
  rintro e w1 ⟨rfl, hb⟩
  go_wp2_with fail
  go_ret
  refine ⟨ret_i ?_, hb⟩
  obtain ⟨h1, h2⟩ := HP.out
  obtain ⟨h3, h4⟩ := HZ.out
  simp [sg] at h3 h4
  rw [show (a.natAbs : Int) = a by omega, show (b.natAbs : Int) = b by omega]
 ·go_enter Tryz.func100, Tryz.ntmps100
  go_wp2_with fail
  go_ret
  refine ⟨ret_i ?_, Below.refl _ _⟩
  obtain ⟨h1, h2⟩ := HP.out
  obtain ⟨h3, h4⟩ := HZ.out
  have h5 := HQ.out.2
  simp at h5
  simp [sg] at h3 h4
  have : cmpI a b = 1 := by unfold cmpI; rw [if_neg (by omega), if_pos (by omega)]
  exact this.symm
 ·go_enter Tryz.func100, Tryz.ntmps100
  go_wp2_with fail
  go_ret
  refine ⟨ret_i ?_, Below.refl _ _⟩
  obtain ⟨h1, h2⟩ := HP.out
  obtain ⟨h3, h4⟩ := HZ.out
  have h5 := HQ.out.1
  simp at h5
  simp [sg] at h3 h4
  have : cmpI a b = -1 := by unfold cmpI; rw [if_pos (by omega)]
  exact this.symm
 go_enter Tryz.func100, Tryz.ntmps100
 go_wp2_with fail
 refine (cmpAbs_n ga oa gb ob a b na nb w HA.out.1 HA.out.2 hl).mono ?_
 rintro e w1 ⟨rfl, hb⟩
 go_wp2_with fail
 go_ret
 refine ⟨ret_i ?_, hb⟩
 obtain ⟨h1, h2⟩ := HP.out
 obtain ⟨h3, h4⟩ := HZ.out
 simp [sg] at h3 h4
 have e1 : (a.natAbs : Int) = -a := by omega
 have e2 : (b.natAbs : Int) = -b := by omega
 rw [e1, e2]
 have : wrap64 (-cmpI (-a) (-b)) = cmpI a b := by
  unfold cmpI wrap64
  repeat' split
  all_goals omega
 exact this
theorem sub_n (A0 : Option Addr) (c0 : Nat) (la : List Int) (A1 : Option Addr) (c1 : Nat) (lb : List Int) (w : World) (h0 : la.length ≤ c0) (r0 : Kd.C (Kd.int .u32) w A0 la.length la) (h1 : lb.length ≤ c1) (r1 : Kd.C (Kd.int .u32) w A1 lb.length lb) (ha : Cn 4294967296 la) (hb : Cn 4294967296 lb) (hn : la.length ≤ 1000000) (hle : dv 4294967296 lb ≤ dv 4294967296 la) :
  Calls Tryz.prog 138 #[.slice A0 la.length c0, .slice A1 lb.length c1] w fun e w' => ∃ v r, e = .returned v ∧ Mag w' v r ∧ Cn 4294967296 r ∧ dv 4294967296 r = dv 4294967296 la - dv 4294967296 lb ∧ r.length ≤ la.length ∧ Below w.heap.size w w' := by
 obtain ⟨k, r, hf, hc, hv, hl⟩ := sub_f la lb ha hb (by omega) hle
 refine (num_subMag.calls k A0 c0 la A1 c1 lb r w r0 h0 r1 h1 hf).mono ?_
 rintro e w' ⟨v, rfl, hV, hb⟩
 exact ⟨v, r, rfl, Mag.of hV, hc, hv, hl, hb⟩
theorem add_n (gx ox ga oa gb ob : Nat) (a b : Int) (na nb : Nat) (w : World) (hx : Room w gx ox) (ha : IsN w ga oa a na) (hb : IsW w gb ob b nb) (hl : na + nb ≤ 1000) :
  Calls Tryz.prog 90 #[.pointer (some ⟨gx, ox, none⟩), .pointer (some ⟨ga, oa, none⟩), .pointer (some ⟨gb, ob, none⟩)] w (SetP w gx ox (a + b) (max na nb + 1)) := by
 obtain ⟨nega, Aa, cca, la, sa, hca, ra, ca, hla, hza, qa⟩ := ha.open
 obtain ⟨negb, Ab, ccb, lb, sb, hcb, rb, cb, hlb, hzb⟩ := hb.at_
 have hma : na ≤ max na nb := Nat.le_max_left _ _
 have hmb : nb ≤ max na nb := Nat.le_max_right _ _
 have hmm : max la.length lb.length ≤ max na nb := Nat.max_le.2 ⟨by omega, by omega⟩
 generalize max na nb = nm at hma hmb hmm ⊢
 generalize hz : a + b = z
 rw [hza, hzb] at hz
 have a0 := sa.cell0
 have a1 := sa.cell1
 have b0 := sb.cell0
 have b1 := sb.cell1
 clear ha hb hza hzb qa
 by_cases hs : nega = negb
 ·subst hs
  have HZ := aS (show sg nega (dv 4294967296 la + dv 4294967296 lb) = z by rw [← hz]; cases nega <;> simp [sg]; omega)
  clear hz
  have ht : (nega == nega) = true := by simp
  go_enter Tryz.func90, Tryz.ntmps90
  go_wp2_with fail
  go_quiet (fail)
  go_wp2_with fail
  generalize hq : World.drewN w _ = W
  have hB : Below w.heap.size w W := by rw [← hq]; exact pw_below_drewN (Below.refl _ _) _
  clear hq
  replace ra := Kd.C_below ra hB
  replace rb := Kd.C_below rb hB
  replace sa := sa.below hB
  replace sb := sb.below hB
  replace hx := hx.below hB
  replace a0 := sa.cell0
  replace a1 := sa.cell1
  replace b0 := sb.cell0
  replace b1 := sb.cell1
  refine start_ (n := 16) (S := fun w' => w'.cell? ⟨ga, oa, none⟩ = some (.bool nega) ∧ w'.cell? ⟨ga, oa + 1, none⟩ = some (.slice Aa la.length cca) ∧ w'.cell? ⟨gb, ob + 1, none⟩ = some (.slice Ab lb.length ccb)) (ds := [14]) (bs 16 0) (by kernel_rfl) rfl rfl ⟨a0, a1, b1⟩ (fun hHeld => ?_)
  refine zP 0 16 16 1 ?_
  refine zP 1 17 16 3 ?_
  refine zP 2 18 16 7 ?_
  refine zP 3 19 16 15 ?_
  refine zP 5 21 16 47 ?_
  refine zP 6 22 16 111 ?_
  refine zP 7 23 16 239 ?_
  refine zP 9 25 16 751 ?_
  refine zP 10 26 16 1775 ?_
  refine zP 11 27 16 3823 ?_
  refine zT 4 20 16 3839 hHeld ?_
  refine zT 8 24 16 4095 hHeld ?_
  refine zT 12 28 16 8191 hHeld ?_
  refine zN 13 (some 29) 16 16383 (fun K hK => ?_)
  refine zG Tryz.func137 #[.slice Aa la.length cca, .slice Ab lb.length ccb] ?_
  with_reducible refine (addMag_n (.slice Aa la.length cca) (.slice Ab lb.length ccb) la lb _ (Mag.mk' hca (Kd.C_drew ra)) (Mag.mk' hcb (Kd.C_drew rb)) ca.dg cb.dg (by omega) (by omega)).mono ?_
  rintro e w1 ⟨v, r, rfl, hM, hc, hv, hn, hb⟩
  refine ⟨_, rfl, ?_⟩
  have hb' := below_drew' hb
  refine hK.out _ _ ⟨(sa.below hb').cell0, (sa.below hb').cell1, (sb.below hb').cell1⟩ (fun hHeld => ?_)
  clear hK K
  refine zM 29 ?_
  refine zL 14 (some 30) 16 32767 (fun K hK => ?_)
  refine zG Tryz.func136 #[.pointer (some ⟨gx, ox, none⟩), .bool nega, v] ?_
  with_reducible refine (set_n gx ox v r nega (nm + 1) w1 (hx.below hb') hM hc (by omega)).mono ?_
  rintro e w2 ⟨rfl, hw, hN⟩
  refine ⟨_, rfl, ?_⟩
  refine hK.out _ _ ?_
  clear hK K
  refine zM 30 ?_
  refine zP 15 6 16 65535 ?_
  refine done_ (by kernel_rfl) ?_
  have HN := aS hN
  have HV := aS hv
  clear hN hv
  go_wp2
  go_ret
  refine ⟨rfl, (Wrote.of_below (hB.trans (hb'.mono hB.size)) gx ox).trans hw, ?_⟩
  have h1 := HN.out
  rw [HV.out, HZ.out] at h1
  exact h1
 have ht : (nega == negb) = false := by simp [hs]
 have hn2 : negb = !nega := by cases nega <;> cases negb <;> simp_all
 have pa := dv_nonneg (by decide) ca.dg
 have pb := dv_nonneg (by decide) cb.dg
 have HT := aS hn2
 clear hn2 hs
 by_cases hle : dv 4294967296 lb ≤ dv 4294967296 la
 ·have HZ := aS (show sg nega (dv 4294967296 la - dv 4294967296 lb) = z by rw [← hz, HT.out]; cases nega <;> simp [sg] <;> omega)
  have HLE := aS hle
  clear hz hle pa pb
  go_enter Tryz.func90, Tryz.ntmps90
  go_wp2_with fail
  go_quiet (fail)
  go_wp2_with fail
  generalize hq : World.drewN w _ = W
  have hB : Below w.heap.size w W := by rw [← hq]; exact pw_below_drewN (Below.refl _ _) _
  clear hq
  replace ra := Kd.C_below ra hB
  replace rb := Kd.C_below rb hB
  replace sa := sa.below hB
  replace sb := sb.below hB
  replace hx := hx.below hB
  replace a0 := sa.cell0
  replace a1 := sa.cell1
  replace b0 := sb.cell0
  replace b1 := sb.cell1
  refine start_ (n := 10) (S := fun w' => w'.cell? ⟨ga, oa + 1, none⟩ = some (.slice Aa la.length cca) ∧ w'.cell? ⟨gb, ob + 1, none⟩ = some (.slice Ab lb.length ccb)) (ds := []) (bs 10 0) (by kernel_rfl) rfl rfl ⟨a1, b1⟩ (fun hHeld => ?_)
  refine zP 0 31 10 1 ?_
  refine zP 1 32 10 3 ?_
  refine zP 2 33 10 7 ?_
  refine zP 4 35 10 23 ?_
  refine zP 5 36 10 55 ?_
  refine zP 6 37 10 119 ?_
  refine zT 3 34 10 127 hHeld ?_
  refine zT 7 38 10 255 hHeld ?_
  refine zN 8 (some 39) 10 511 (fun K hK => ?_)
  refine zG Tryz.func130 #[.slice Aa la.length cca, .slice Ab lb.length ccb] ?_
  with_reducible refine (cmpMag_n Aa cca la Ab ccb lb _ hca (Kd.C_drew ra) hcb (Kd.C_drew rb) ca cb (by omega) (by omega)).mono ?_
  rintro e W2 ⟨c, rfl, hs, hd⟩
  refine ⟨_, rfl, ?_⟩
  have hb2 := below_drew' hd
  refine hK.out _ _ ⟨(sa.below hb2).cell1, (sb.below hb2).cell1⟩ (fun hHeld => ?_)
  clear hK K
  refine zM 39 ?_
  refine zP 9 40 10 1023 ?_
  refine done_ (by kernel_rfl) ?_
  have hc0 : 0 ≤ c := by have := HLE.out; unfold Sg at hs; omega
  clear hs
  go_wp2_with fail
  replace ra := Kd.C_below ra hb2
  replace rb := Kd.C_below rb hb2
  replace sa := sa.below hb2
  replace sb := sb.below hb2
  replace hx := hx.below hb2
  replace a0 := sa.cell0
  replace a1 := sa.cell1
  replace b0 := sb.cell0
  replace b1 := sb.cell1
  refine start_ (n := 16) (S := fun w' => w'.cell? ⟨ga, oa, none⟩ = some (.bool nega) ∧ w'.cell? ⟨ga, oa + 1, none⟩ = some (.slice Aa la.length cca) ∧ w'.cell? ⟨gb, ob + 1, none⟩ = some (.slice Ab lb.length ccb)) (ds := [14]) (bs 16 0) (by kernel_rfl) rfl rfl ⟨a0, a1, b1⟩ (fun hHeld => ?_)
  refine zP 0 41 16 1 ?_
  refine zP 1 42 16 3 ?_
  refine zP 2 43 16 7 ?_
  refine zP 3 44 16 15 ?_
  refine zP 5 46 16 47 ?_
  refine zP 6 47 16 111 ?_
  refine zP 7 48 16 239 ?_
  refine zP 9 50 16 751 ?_
  refine zP 10 51 16 1775 ?_
  refine zP 11 52 16 3823 ?_
  refine zT 4 45 16 3839 hHeld ?_
  refine zT 8 49 16 4095 hHeld ?_
  refine zT 12 53 16 8191 hHeld ?_
  refine zN 13 (some 54) 16 16383 (fun K hK => ?_)
  refine zG Tryz.func138 #[.slice Aa la.length cca, .slice Ab lb.length ccb] ?_
  with_reducible refine (sub_n Aa cca la Ab ccb lb _ hca (Kd.C_drew ra) hcb (Kd.C_drew rb) ca cb (by omega) HLE.out).mono ?_
  rintro e w1 ⟨v, r, rfl, hM, hc, hv, hn, hb⟩
  refine ⟨_, rfl, ?_⟩
  have hb' := below_drew' hb
  refine hK.out _ _ ⟨(sa.below hb').cell0, (sa.below hb').cell1, (sb.below hb').cell1⟩ (fun hHeld => ?_)
  clear hK K
  refine zM 54 ?_
  refine zL 14 (some 55) 16 32767 (fun K hK => ?_)
  refine zG Tryz.func136 #[.pointer (some ⟨gx, ox, none⟩), .bool nega, v] ?_
  with_reducible refine (set_n gx ox v r nega (nm + 1) w1 (hx.below hb') hM hc (by omega)).mono ?_
  rintro e w2 ⟨rfl, hw, hN⟩
  refine ⟨_, rfl, ?_⟩
  refine hK.out _ _ ?_
  clear hK K
  refine zM 55 ?_
  refine zP 15 6 16 65535 ?_
  refine done_ (by kernel_rfl) ?_
  have HN := aS hN
  have HV := aS hv
  clear hN hv
  go_wp2
  go_ret
  refine ⟨rfl, (Wrote.of_below ((hB.trans (hb2.mono hB.size)).trans (hb'.mono (hB.trans (hb2.mono hB.size)).size)) gx ox).trans hw, ?_⟩
  have h1 := HN.out
  rw [HV.out, HZ.out] at h1
  exact h1
 have HZ := aS (show sg negb (dv 4294967296 lb - dv 4294967296 la) = z by rw [← hz, HT.out]; cases nega <;> simp [sg] <;> omega)
 have HLE := aS (show dv 4294967296 la < dv 4294967296 lb by omega)
 clear hz hle pa pb
 go_enter Tryz.func90, Tryz.ntmps90
 go_wp2_with fail
 go_quiet (fail)
 go_wp2_with fail
 generalize hq : World.drewN w _ = W
 have hB : Below w.heap.size w W := by rw [← hq]; exact pw_below_drewN (Below.refl _ _) _
 clear hq
 replace ra := Kd.C_below ra hB
 replace rb := Kd.C_below rb hB
 replace sa := sa.below hB
 replace sb := sb.below hB
 replace hx := hx.below hB
 replace a0 := sa.cell0
 replace a1 := sa.cell1
 replace b0 := sb.cell0
 replace b1 := sb.cell1
 refine start_ (n := 10) (S := fun w' => w'.cell? ⟨ga, oa + 1, none⟩ = some (.slice Aa la.length cca) ∧ w'.cell? ⟨gb, ob + 1, none⟩ = some (.slice Ab lb.length ccb)) (ds := []) (bs 10 0) (by kernel_rfl) rfl rfl ⟨a1, b1⟩ (fun hHeld => ?_)
 refine zP 0 31 10 1 ?_
 refine zP 1 32 10 3 ?_
 refine zP 2 33 10 7 ?_
 refine zP 4 35 10 23 ?_
 refine zP 5 36 10 55 ?_
 refine zP 6 37 10 119 ?_
 refine zT 3 34 10 127 hHeld ?_
 refine zT 7 38 10 255 hHeld ?_
 refine zN 8 (some 39) 10 511 (fun K hK => ?_)
 refine zG Tryz.func130 #[.slice Aa la.length cca, .slice Ab lb.length ccb] ?_
 with_reducible refine (cmpMag_n Aa cca la Ab ccb lb _ hca (Kd.C_drew ra) hcb (Kd.C_drew rb) ca cb (by omega) (by omega)).mono ?_
 rintro e W2 ⟨c, rfl, hs, hd⟩
 refine ⟨_, rfl, ?_⟩
 have hb2 := below_drew' hd
 refine hK.out _ _ ⟨(sa.below hb2).cell1, (sb.below hb2).cell1⟩ (fun hHeld => ?_)
 clear hK K
 refine zM 39 ?_
 refine zP 9 40 10 1023 ?_
 refine done_ (by kernel_rfl) ?_
 have hc0 : c < 0 := by have := HLE.out; unfold Sg at hs; omega
 clear hs
 go_wp2_with fail
 replace ra := Kd.C_below ra hb2
 replace rb := Kd.C_below rb hb2
 replace sa := sa.below hb2
 replace sb := sb.below hb2
 replace hx := hx.below hb2
 replace a0 := sa.cell0
 replace a1 := sa.cell1
 replace b0 := sb.cell0
 replace b1 := sb.cell1
 refine start_ (n := 16) (S := fun w' => w'.cell? ⟨gb, ob, none⟩ = some (.bool negb) ∧ w'.cell? ⟨gb, ob + 1, none⟩ = some (.slice Ab lb.length ccb) ∧ w'.cell? ⟨ga, oa + 1, none⟩ = some (.slice Aa la.length cca)) (ds := [14]) (bs 16 0) (by kernel_rfl) rfl rfl ⟨b0, b1, a1⟩ (fun hHeld => ?_)
 refine zP 0 56 16 1 ?_
 refine zP 1 57 16 3 ?_
 refine zP 2 58 16 7 ?_
 refine zP 3 59 16 15 ?_
 refine zP 5 61 16 47 ?_
 refine zP 6 62 16 111 ?_
 refine zP 7 63 16 239 ?_
 refine zP 9 65 16 751 ?_
 refine zP 10 66 16 1775 ?_
 refine zP 11 67 16 3823 ?_
 refine zT 4 60 16 3839 hHeld ?_
 refine zT 8 64 16 4095 hHeld ?_
 refine zT 12 68 16 8191 hHeld ?_
 refine zN 13 (some 69) 16 16383 (fun K hK => ?_)
 refine zG Tryz.func138 #[.slice Ab lb.length ccb, .slice Aa la.length cca] ?_
 with_reducible refine (sub_n Ab ccb lb Aa cca la _ hcb (Kd.C_drew rb) hca (Kd.C_drew ra) cb ca (by omega) (Int.le_of_lt HLE.out)).mono ?_
 rintro e w1 ⟨v, r, rfl, hM, hc, hv, hn, hb⟩
 refine ⟨_, rfl, ?_⟩
 have hb' := below_drew' hb
 refine hK.out _ _ ⟨(sb.below hb').cell0, (sb.below hb').cell1, (sa.below hb').cell1⟩ (fun hHeld => ?_)
 clear hK K
 refine zM 69 ?_
 refine zL 14 (some 70) 16 32767 (fun K hK => ?_)
 refine zG Tryz.func136 #[.pointer (some ⟨gx, ox, none⟩), .bool negb, v] ?_
 with_reducible refine (set_n gx ox v r negb (nm + 1) w1 (hx.below hb') hM hc (by omega)).mono ?_
 rintro e w2 ⟨rfl, hw, hN⟩
 refine ⟨_, rfl, ?_⟩
 refine hK.out _ _ ?_
 clear hK K
 refine zM 70 ?_
 refine zP 15 6 16 65535 ?_
 refine done_ (by kernel_rfl) ?_
 have HN := aS hN
 have HV := aS hv
 clear hN hv
 go_wp2
 go_ret
 refine ⟨rfl, (Wrote.of_below ((hB.trans (hb2.mono hB.size)).trans (hb'.mono (hB.trans (hb2.mono hB.size)).size)) gx ox).trans hw, ?_⟩
 have h1 := HN.out
 rw [HV.out, HZ.out] at h1
 exact h1
end Go.Proofs.YtekommcfpjonmaaGreat.Nb
namespace Go.Proofs.YtekommcfpjonmaaGreat.Ns
open RowKit Go YtekommcfpjonmaaGreatW.PrintWords YtekommcfpjonmaaGreatW.PrintLast YtekommcfpjonmaaGreatW.PrintMore Ml Mn Nd Z P Nc
theorem wraps_u64 (n : Int) (h0 : 0 ≤ n) (h1 : n < 2 ^ 64) : IntKind.u64.wrap n = n := by
 rw [u64m]
 omega
theorem or_high (x y : Int) (i : Nat) (hx0 : 0 ≤ x) (hx : x % 2 ^ i = 0) (hx1 : x < 18446744073709551616) (hy0 : 0 ≤ y) (hy : y < 2 ^ i) (hy1 : y < 18446744073709551616) : bits .or .u64 x y = x + y :=
 bits_join .u64 64 (by decide) wraps_u64 i x y hx0 hx (by omega) hy0 hy (by omega)
theorem or_low (c y : Int) (i : Nat) (hx0 : 0 ≤ y) (hx : y % 2 ^ i = 0) (hx1 : y < 18446744073709551616) (hy0 : 0 ≤ c) (hy : c < 2 ^ i) (hy1 : c < 18446744073709551616) : bits .or .u64 c y = c + y := by
 have h := or_high y c i hx0 hx hx1 hy0 hy hy1
 obtain ⟨a, rfl⟩ := Int.eq_ofNat_of_zero_le hx0
 obtain ⟨b, rfl⟩ := Int.eq_ofNat_of_zero_le hy0
 have ha : a < 2 ^ 64 := by omega
 have hb : b < 2 ^ 64 := by omega
 rw [(bits_nat .u64 64 (by decide) wraps_u64 a b ha hb).2] at h
 rw [(bits_nat .u64 64 (by decide) wraps_u64 b a hb ha).2, Nat.or_comm, h]
 omega
structure ShI (x : List Int) (p : Int) (i : Nat) (c : Int) (out : List Int) : Prop where
 c0 : 0 ≤ c
 c1 : c < p
 dg : Dg 4294967296 out
 len : out.length = x.length + 1
 val : dv 4294967296 out + c * pw 4294967296 i = dv 4294967296 (x.take i) * p
 zero : ∀ m, i ≤ m → out.getD m 0 = 0
theorem ShI.start (x : List Int) (p : Int) (hp : 0 < p) : ShI x p 0 0 (List.replicate (x.length + 1) 0) :=
 ⟨by omega, hp, Dg.replicate (by decide) _, by simp, by rw [dv_replicate]; simp [dv], fun m _ => by
  rw [List.getD_eq_getElem?_getD, List.getElem?_replicate]
  split <;> rfl⟩
theorem sh_num {c x p : Int} (c0 : 0 ≤ c) (c1 : c < p) (hp : p ≤ 4294967296) (x0 : 0 ≤ x) (x1 : x < 4294967296) : 0 ≤ c + x * p ∧ c + x * p < p * 4294967296 := by
 have h1 : 0 ≤ x * p := Int.mul_nonneg x0 (by omega)
 have h2 : x * p ≤ 4294967295 * p := Int.mul_le_mul_of_nonneg_right (by omega) (by omega)
 omega
theorem ShI.step {x : List Int} {p : Int} {i : Nat} {c : Int} {out : List Int} (h : ShI x p i c out) (hx : Dg 4294967296 x) (hp : p ≤ 4294967296) (hi : i < x.length) :
  ShI x p (i + 1) ((c + x.getD i 0 * p) / 4294967296) (out.set i ((c + x.getD i 0 * p) % 4294967296)) := by
 have h1 := hx.getD (by decide) i
 have h3 := h.c0
 have h4 := h.c1
 have h2 := sh_num h3 h4 hp h1.1 h1.2
 obtain ⟨s, hs⟩ : ∃ s, s = c + x.getD i 0 * p := ⟨_, rfl⟩
 rw [← hs] at h2 ⊢
 refine ⟨by omega, by omega, h.dg.set _ (by omega) (by omega), by simpa using h.len, ?_, fun m hm => by rw [getD_set (by omega)]; exact h.zero m (by omega)⟩
 have h5 := h.val
 rw [dv_set _ _ _ _ (by have := h.len; omega), h.zero i (Nat.le_refl _), dv_take_succ', pw_succ]
 have h6 : s % 4294967296 = s - 4294967296 * (s / 4294967296) := by omega
 rw [h6]
 generalize s / 4294967296 = q
 rw [hs]
 grind
theorem ShI.done {x : List Int} {p : Int} {c : Int} {out : List Int} (h : ShI x p x.length c out) (hp : p ≤ 4294967296) : Dg 4294967296 (out.set x.length c) ∧ dv 4294967296 (out.set x.length c) = dv 4294967296 x * p ∧ (out.set x.length c).length = x.length + 1 ∧ (out.set x.length c).getD x.length 0 < p := by
 have h1 := h.val
 have h3 := h.c0
 have h4 := h.c1
 rw [List.take_of_length_le (Nat.le_refl _)] at h1
 refine ⟨h.dg.set _ (by omega) (by omega), ?_, by simpa using h.len, ?_⟩
 ·rw [dv_set _ _ _ _ (by have := h.len; omega), h.zero _ (Nat.le_refl _)]
  rw [← h1]
  grind
 rw [getD_set_self (by have := h.len; omega)]
 exact h4
theorem shift_n (Ax : Option Addr) (cx : Nat) (x : List Int) (b : Nat) (w : World) (hcx : x.length ≤ cx) (HX : Kd.C (Kd.int .u32) w Ax x.length x) (hd : Dg 4294967296 x) (hn : x.length ≤ 1000000) (hb : b ≤ 31) :
  Calls Tryz.prog 153 #[.slice Ax x.length cx, .int .i64 (b : Int)] w fun e w' => ∃ g c r, w.heap.size ≤ g ∧ e = .returned (.slice (some ⟨g, 0, none⟩) (x.length + 1) c) ∧ Kd.R (Kd.int .u32) 157 w' w.heap.size (fun _ => True) (.slice (some ⟨g, 0, none⟩) (x.length + 1) c) r ∧ Dg 4294967296 r ∧ r.length = x.length + 1 ∧ dv 4294967296 r = dv 4294967296 x * 2 ^ b ∧ r.getD x.length 0 < 2 ^ b ∧ Below w.heap.size w w' := by
 have hp0 : (0 : Int) < 2 ^ b := Int.pow_pos (by decide)
 have hp1 : (2 : Int) ^ b ≤ 2147483648 := by
  have : b = 0 ∨ b = 1 ∨ b = 2 ∨ b = 3 ∨ b = 4 ∨ b = 5 ∨ b = 6 ∨ b = 7 ∨ b = 8 ∨ b = 9 ∨ b = 10 ∨ b = 11 ∨ b = 12 ∨ b = 13 ∨ b = 14 ∨ b = 15 ∨ b = 16 ∨ b = 17 ∨ b = 18 ∨ b = 19 ∨ b = 20 ∨ b = 21 ∨ b = 22 ∨ b = 23 ∨ b = 24 ∨ b = 25 ∨ b = 26 ∨ b = 27 ∨ b = 28 ∨ b = 29 ∨ b = 30 ∨ b = 31 := by omega
  rcases this with h | h | h | h | h | h | h | h | h | h | h | h | h | h | h | h | h | h | h | h | h | h | h | h | h | h | h | h | h | h | h | h <;> subst h <;> decide
 obtain ⟨p, hp⟩ : ∃ p : Int, p = 2 ^ b := ⟨_, rfl⟩
 rw [← hp] at hp0 hp1 ⊢
 have HP := aS hp
 have HXa := aS HX
 have HD := aS hd
 clear hp HX hd
 have hlen : 0 ≤ (x.length : Int) + 1 := by omega
 go_enter Tryz.func153, Tryz.ntmps153
 go_wp2_with ((with_reducible refine gate_dst (N := 12) rfl ?_); refine Kd.R_make (Kd.int .u32) _ 157 rfl (N := 12) rfl 117 _ _ rfl ((x.length : Int) + 1) rfl rfl Tryz.underlying117 (.int .u32 0) 4 info157 rfl (by decide) (by omega) 0 (ok := fun _ => True) (okp := fun _ => True) rfl (fun _ hk => hk) trivial hlen (by omega) (Below.refl _ _) (Nat.le_refl _) ?_; intro v w5 ho hb hg_ hnew_; clear hg_ hnew_; have HO := aS ho; have HB := aS hb; clear ho hb)
 obtain ⟨go, co, eo, gb, _, _⟩ := Kd.R_form HO.out (by simp)
 have eo2 : v = .slice (some ⟨go, 0, none⟩) (x.length + 1) co := by rw [eo]; simp
 have HO2 := aS (show ∃ out, ShI x p 0 0 out ∧ Kd.R (Kd.int .u32) 157 w5 w.heap.size (fun _ => True) (.slice (some ⟨go, 0, none⟩) (x.length + 1) co) out from ⟨_, ShI.start x p hp0, by have := HO.out; rw [eo2] at this; simpa using this⟩)
 subst eo2
 clear HO eo
 go_loopg [6, 15] x.length (fun kq v6 v15 w' => ∃ (i : Nat) (c : Int) (out : List Int), v6 = .int .u64 c ∧ v15 = .int .i64 (i : Int) ∧ Aside0 (i + kq = x.length) ∧ Aside0 (ShI x p i c out) ∧ Aside0 (Kd.R (Kd.int .u32) 157 w' w.heap.size (fun _ => True) (.slice (some ⟨go, 0, none⟩) (x.length + 1) co) out) ∧ Aside0 (Below w.heap.size w w'))
 case atStart =>
  obtain ⟨out, h1, h2⟩ := HO2.out
  exact ⟨0, 0, out, rfl, rfl, ⟨by omega⟩, ⟨h1⟩, ⟨h2⟩, HB⟩
 case round =>
  clear HO2 HB
  obtain ⟨i, c, out, rfl, rfl, HK, HI, HO, HB⟩ := hrel
  cases gk with
  | zero =>
   have hi : i = x.length := HK.out
   have hb0 : decide (i < x.length) = false := decide_eq_false (by omega)
   obtain ⟨hy1, hz1⟩ := own_cell HO.out x.length (by omega)
   have hc0 := HI.out.c0
   have hc1 := HI.out.c1
   have HI2 := aS hi
   have HF := aS ((show ShI x p x.length c out from HI2.out ▸ HI.out).done (by omega))
   clear hi
   go_wp2_with fail
   refine bodyPost_ret (v := .slice (some ⟨go, 0, none⟩) (x.length + 1) co) (by simp [results, Tryz.results153, go_sem]) rfl ?_
   exact ⟨go, co, out.set x.length c, gb, rfl, own_put HO.out x.length c, HF.out.1, HF.out.2.2.1, HF.out.2.1, HF.out.2.2.2, HB.out.setCell gb _⟩
  | succ k1 =>
   have hi : i < x.length := by have := HK.out; omega
   have hb0 : decide (i < x.length) = true := decide_eq_true hi
   obtain ⟨adx, ex, hxc⟩ := mag_cell HXa.out HB.out i hi
   obtain ⟨hy1, hz1⟩ := own_cell HO.out i (by omega)
   have hdx := HD.out.getD (by decide) i
   have hc0 := HI.out.c0
   have hc1 := HI.out.c1
   cases ex
   have hst := HI.out.step HD.out (by omega) hi
   generalize hxi : x.getD i 0 = xi at hxc hdx hst
   have HT := aS hst
   obtain ⟨hdx0, hdx1⟩ := hdx
   clear hst hxi
   have hbit : bits BinOp.or IntKind.u64 c (IntKind.u64.wrap (xi * 2 ^ b)) = c + xi * p := by
    have h2 := sh_num hc0 hc1 (by omega) hdx0 hdx1
    have h3 : p * 4294967296 ≤ 2147483648 * 4294967296 := Int.mul_le_mul_of_nonneg_right hp1 (by decide)
    have h4 : 0 ≤ xi * p := Int.mul_nonneg hdx0 (by omega)
    rw [← HP.out, u64 (x := xi * p) h4 (by omega)]
    refine or_low c (xi * p) b h4 ?_ (by omega) hc0 (by rw [← HP.out]; exact hc1) (by omega)
    rw [← HP.out]
    exact Int.mul_emod_left _ _
   have HBI := aS hbit
   clear hbit
   go_wp2_with fail
   go_roundg k1
   case measure => omega
   case rel =>
    rw [← HBI.out] at HT
    exact ⟨i + 1, _, _, rfl, by simp, ⟨by have := HK.out; omega⟩, HT, ⟨own_put HO.out i _⟩, ⟨HB.out.setCell gb _⟩⟩
theorem shift_m (Ax : Option Addr) (cx : Nat) (x : List Int) (m : Nat) (hm : x.length = m) (b : Nat) (w : World) (hcx : m ≤ cx) (HX : Kd.C (Kd.int .u32) w Ax m x) (hd : Dg 4294967296 x) (hn : m ≤ 1000000) (hb : b ≤ 31) :
  Calls Tryz.prog 153 #[.slice Ax m cx, .int .i64 (b : Int)] w fun e w' => ∃ g c r, w.heap.size ≤ g ∧ e = .returned (.slice (some ⟨g, 0, none⟩) (m + 1) c) ∧ Kd.R (Kd.int .u32) 157 w' w.heap.size (fun _ => True) (.slice (some ⟨g, 0, none⟩) (m + 1) c) r ∧ Dg 4294967296 r ∧ r.length = m + 1 ∧ dv 4294967296 r = dv 4294967296 x * 2 ^ b ∧ r.getD m 0 < 2 ^ b ∧ Below w.heap.size w w' := by
 subst hm
 exact shift_n Ax cx x b w hcx HX hd hn hb
end Go.Proofs.YtekommcfpjonmaaGreat.Ns
namespace Go.Proofs.YtekommcfpjonmaaGreat.Nk
open YtekommcfpjonmaaGreatW.PrintWords Ml Mn
open RowKit (wrap64)
theorem mul_mono {a b c d : Int} (h1 : a ≤ b) (h2 : c ≤ d) (h3 : 0 ≤ c) (h4 : 0 ≤ b) : a * c ≤ b * d := Int.le_trans (Int.mul_le_mul_of_nonneg_right h1 h3) (Int.mul_le_mul_of_nonneg_left h2 h4)
theorem lt_of_mul {a b c : Int} (h : a * c < b * c) (hc : 0 < c) : a < b := Int.lt_of_mul_lt_mul_right h (Int.le_of_lt hc)
structure Kn (v1 v2 vl top u2 ul M : Int) : Prop where
 m : 0 < M
 v1a : 2147483648 ≤ v1
 v1b : v1 < 4294967296
 v2a : 0 ≤ v2
 v2b : v2 < 4294967296
 vla : 0 ≤ vl
 vlb : vl < M
 ta : 0 ≤ top
 tb : top < 18446744073709551616
 u2a : 0 ≤ u2
 u2b : u2 < 4294967296
 ula : 0 ≤ ul
 ulb : ul < M
 lt : (top * 4294967296 + u2) * M + ul < ((v1 * 4294967296 + v2) * M + vl) * 4294967296
section
variable {v1 v2 vl top u2 ul M q r : Int}
theorem Kn.top_le (h : Kn v1 v2 vl top u2 ul M) : top < v1 * 4294967296 + 4294967296 := by
 have h1 := h.lt
 have h2 := h.m
 have hv1a := h.v1a
 have hv1b := h.v1b
 have hv2b := h.v2b
 have hvlb := h.vlb
 have hula := h.ula
 have hu2a := h.u2a
 refine Int.lt_of_not_ge fun hc => ?_
 have h3 : (v1 * 4294967296 + 4294967296) * 4294967296 ≤ top * 4294967296 + u2 := by omega
 have h4 := Int.mul_le_mul_of_nonneg_right h3 (Int.le_of_lt h2)
 have h5 : (v1 * 4294967296 + v2 + 1) * M ≤ (v1 * 4294967296 + 4294967296) * M := Int.mul_le_mul_of_nonneg_right (by omega) (Int.le_of_lt h2)
 have h6 : (v1 * 4294967296 + 4294967296) * 4294967296 * M = (v1 * 4294967296 + 4294967296) * M * 4294967296 := by grind
 have h7 : (v1 * 4294967296 + v2 + 1) * M = (v1 * 4294967296 + v2) * M + M := by grind
 generalize (v1 * 4294967296 + v2) * M = A at *
 generalize (v1 * 4294967296 + 4294967296) * M = C at *
 generalize (top * 4294967296 + u2) * M = D at *
 omega
structure Qt (v1 v2 vl top u2 ul M Q : Int) : Prop where
 q0 : 0 ≤ Q
 lo : Q * ((v1 * 4294967296 + v2) * M + vl) ≤ (top * 4294967296 + u2) * M + ul
 hi : (top * 4294967296 + u2) * M + ul < (Q + 1) * ((v1 * 4294967296 + v2) * M + vl)
theorem Kn.v_pos (h : Kn v1 v2 vl top u2 ul M) : 0 < (v1 * 4294967296 + v2) * M + vl := by
 have h1 := h.v1a
 have h2 := h.v2a
 have h3 := h.vla
 have := Int.mul_pos (show 0 < v1 * 4294967296 + v2 by omega) h.m
 omega
theorem Kn.u_nn (h : Kn v1 v2 vl top u2 ul M) : 0 ≤ (top * 4294967296 + u2) * M + ul := by
 have h1 := h.ta
 have h2 := h.u2a
 have h3 := h.ula
 have := Int.mul_nonneg (show 0 ≤ top * 4294967296 + u2 by omega) (Int.le_of_lt h.m)
 omega
theorem Kn.qt (h : Kn v1 v2 vl top u2 ul M) : Qt v1 v2 vl top u2 ul M (((top * 4294967296 + u2) * M + ul) / ((v1 * 4294967296 + v2) * M + vl)) := by
 exact ⟨Int.ediv_nonneg h.u_nn (Int.le_of_lt h.v_pos), Int.ediv_mul_le _ (Int.ne_of_gt h.v_pos), Int.lt_ediv_add_one_mul_self _ h.v_pos⟩
theorem Kn.q_lt (h : Kn v1 v2 vl top u2 ul M) {Q : Int} (hq : Qt v1 v2 vl top u2 ul M Q) : Q < 4294967296 := by
 have h1 := h.lt
 have h2 := hq.lo
 have hv := h.v_pos
 generalize (v1 * 4294967296 + v2) * M + vl = V at *
 refine lt_of_mul (c := V) ?_ hv
 rw [Int.mul_comm 4294967296 V]
 omega
theorem Kn.first (h : Kn v1 v2 vl top u2 ul M) {Q : Int} (hq : Qt v1 v2 vl top u2 ul M Q) : Q ≤ top / v1 := by
 have h1 := hq.lo
 have h2 := h.m
 have h3 : Q * (v1 * 4294967296 * M) ≤ Q * ((v1 * 4294967296 + v2) * M + vl) := by
  refine Int.mul_le_mul_of_nonneg_left ?_ hq.q0
  have h4 : v1 * 4294967296 * M ≤ (v1 * 4294967296 + v2) * M := Int.mul_le_mul_of_nonneg_right (by have := h.v2a; omega) (Int.le_of_lt h2)
  have := h.vla
  omega
 have h4 : (top * 4294967296 + u2) * M + ul < (top + 1) * 4294967296 * M := by
  have h5 : (top * 4294967296 + u2 + 1) * M ≤ (top + 1) * 4294967296 * M := Int.mul_le_mul_of_nonneg_right (by have := h.u2b; omega) (Int.le_of_lt h2)
  have h6 : (top * 4294967296 + u2 + 1) * M = (top * 4294967296 + u2) * M + M := by grind
  have := h.ulb
  omega
 have h5 : Q * v1 * (4294967296 * M) < (top + 1) * (4294967296 * M) := by
  have e1 : Q * v1 * (4294967296 * M) = Q * (v1 * 4294967296 * M) := by grind
  have e2 : (top + 1) * (4294967296 * M) = (top + 1) * 4294967296 * M := by grind
  omega
 have h6 := lt_of_mul h5 (by omega)
 exact (Int.le_ediv_iff_mul_le (by have := h.v1a; omega)).2 (by omega)
theorem Kn.step (h : Kn v1 v2 vl top u2 ul M) {Q : Int} (hq : Qt v1 v2 vl top u2 ul M Q) (hqr : q * v1 + r = top) (h0 : Q ≤ q) (ht : 4294967296 ≤ q ∨ r * 4294967296 + u2 < q * v2) : Q ≤ q - 1 := by
 rcases ht with ht | ht
 ·have := h.q_lt hq
  omega
 have hq0 := hq.q0
 have h1 := h.m
 have h2 : q * (v1 * 4294967296 + v2) ≥ top * 4294967296 + u2 + 1 := by
  have e : q * (v1 * 4294967296 + v2) = (q * v1) * 4294967296 + q * v2 := by grind
  rw [e]
  generalize q * v2 = a at *
  generalize q * v1 = b at *
  omega
 have h3 : (top * 4294967296 + u2 + 1) * M ≤ q * (v1 * 4294967296 + v2) * M := Int.mul_le_mul_of_nonneg_right h2 (Int.le_of_lt h1)
 have h4 : q * (v1 * 4294967296 + v2) * M ≤ q * ((v1 * 4294967296 + v2) * M + vl) := by
  have e : q * ((v1 * 4294967296 + v2) * M + vl) = q * (v1 * 4294967296 + v2) * M + q * vl := by grind
  have := Int.mul_nonneg (show 0 ≤ q by omega) h.vla
  omega
 have h5 : (top * 4294967296 + u2 + 1) * M = (top * 4294967296 + u2) * M + M := by grind
 have h6 := hq.lo
 have h7 := h.ulb
 have hv := h.v_pos
 generalize (v1 * 4294967296 + v2) * M + vl = V at *
 have h8 : Q * V < q * V := by omega
 have := lt_of_mul h8 hv
 omega
theorem Kn.pass (h : Kn v1 v2 vl top u2 ul M) {Q : Int} (hq : Qt v1 v2 vl top u2 ul M Q) (hqr : q * v1 + r = top) (h0 : Q ≤ q) (h1 : q < 4294967296) (hr : 0 ≤ r) (ht : 4294967296 ≤ r ∨ q * v2 ≤ r * 4294967296 + u2) : q ≤ Q + 1 := by
 have hq0 := hq.q0
 have h2 : q * (v1 * 4294967296 + v2) ≤ top * 4294967296 + u2 := by
  have e : q * (v1 * 4294967296 + v2) = (q * v1) * 4294967296 + q * v2 := by grind
  have h3 : q * v2 ≤ r * 4294967296 + u2 := by
   rcases ht with ht | ht
   ·have h4 : q * v2 ≤ 4294967295 * 4294967295 := mul_mono (by omega) (by have := h.v2b; omega) h.v2a (by omega)
    have := h.u2a
    omega
   exact ht
  rw [e]
  generalize q * v2 = a at *
  generalize q * v1 = b at *
  omega
 refine Int.le_of_not_gt fun hc => ?_
 have h3 : (Q + 1) * ((v1 * 4294967296 + v2) * M + vl) ≤ (q - 1) * ((v1 * 4294967296 + v2) * M + vl) := Int.mul_le_mul_of_nonneg_right (by omega) (Int.le_of_lt h.v_pos)
 have h4 : (q - 1) * ((v1 * 4294967296 + v2) * M + vl) ≤ (q - 1) * ((v1 * 4294967296 + v2) * M + M) := Int.mul_le_mul_of_nonneg_left (by have := h.vlb; omega) (by omega)
 have h5 : (q - 1) * ((v1 * 4294967296 + v2) * M + M) = (q * (v1 * 4294967296 + v2) + (q - 1 - (v1 * 4294967296 + v2))) * M := by grind
 have h6 : (q * (v1 * 4294967296 + v2) + (q - 1 - (v1 * 4294967296 + v2))) * M ≤ (top * 4294967296 + u2) * M := Int.mul_le_mul_of_nonneg_right (by have := h.v1a; have := h.v2a; omega) (Int.le_of_lt h.m)
 have h7 := hq.hi
 have h8 := h.ula
 omega
theorem Kn.small (h : Kn v1 v2 vl top u2 ul M) (hqr : q * v1 + r = top) (hr : 4294967296 ≤ r) : q < 4294967296 := by
 have h1 := h.top_le
 have h2 := h.v1a
 refine lt_of_mul (c := v1) ?_ (by omega)
 rw [Int.mul_comm 4294967296 v1]
 omega
theorem Kn.left (h : Kn v1 v2 vl top u2 ul M) {Q : Int} (hq : Qt v1 v2 vl top u2 ul M Q) (h0 : Q ≤ q) (h1 : q ≤ Q + 1) :
  -((v1 * 4294967296 + v2) * M + vl) ≤ (top * 4294967296 + u2) * M + ul - q * ((v1 * 4294967296 + v2) * M + vl) ∧ (top * 4294967296 + u2) * M + ul - q * ((v1 * 4294967296 + v2) * M + vl) < (v1 * 4294967296 + v2) * M + vl := by
 have h2 := hq.lo
 have h3 := hq.hi
 generalize (v1 * 4294967296 + v2) * M + vl = V at *
 generalize (top * 4294967296 + u2) * M + ul = U at *
 rcases (show q = Q ∨ q = Q + 1 by omega) with e | e
 ·subst e
  rw [Int.add_mul] at h3
  omega
 subst e
 rw [Int.add_mul] at h3 ⊢
 omega
end
theorem dv_top (l : List Int) (n : Nat) (hl : l.length = n + 2) : dv 4294967296 l = (l.getD (n + 1) 0 * 4294967296 + l.getD n 0) * pw 4294967296 n + dv 4294967296 (l.take n) := by
 have h1 := dv_take_succ 4294967296 l (n + 1) (by omega)
 have h2 := dv_take_succ 4294967296 l n (by omega)
 rw [List.take_of_length_le (by omega), pw_succ] at h1
 rw [h1, h2]
 grind
theorem Kn.of (v u : List Int) (n : Nat) (hv : v.length = n + 2) (hu : u.length = n + 3) (dv_ : Dg 4294967296 v) (du : Dg 4294967296 u) (ht : 2147483648 ≤ v.getD (n + 1) 0) (hlt : dv 4294967296 u < dv 4294967296 v * 4294967296) :
  Kn (v.getD (n + 1) 0) (v.getD n 0) (dv 4294967296 (v.take n)) (u.getD (n + 2) 0 * 4294967296 + u.getD (n + 1) 0) (u.getD n 0) (dv 4294967296 (u.take n)) (pw 4294967296 n) ∧
  dv 4294967296 v = (v.getD (n + 1) 0 * 4294967296 + v.getD n 0) * pw 4294967296 n + dv 4294967296 (v.take n) ∧
  dv 4294967296 u = ((u.getD (n + 2) 0 * 4294967296 + u.getD (n + 1) 0) * 4294967296 + u.getD n 0) * pw 4294967296 n + dv 4294967296 (u.take n) := by
 have e1 := dv_top v n hv
 have e2 : dv 4294967296 u = ((u.getD (n + 2) 0 * 4294967296 + u.getD (n + 1) 0) * 4294967296 + u.getD n 0) * pw 4294967296 n + dv 4294967296 (u.take n) := by
  have h1 := dv_take_succ 4294967296 u (n + 2) (by omega)
  have h2 := dv_take_succ 4294967296 u (n + 1) (by omega)
  have h3 := dv_take_succ 4294967296 u n (by omega)
  rw [List.take_of_length_le (by omega), pw_succ, pw_succ] at h1
  rw [pw_succ] at h2
  rw [h1, h2, h3]
  grind
 have a1 := dv_.getD (by decide) (n + 1)
 have a2 := dv_.getD (by decide) n
 have a3 := du.getD (by decide) (n + 2)
 have a4 := du.getD (by decide) (n + 1)
 have a5 := du.getD (by decide) n
 have b1 := dv_nonneg (by decide) (dv_.take n)
 have b2 := dv_lt (by decide) (dv_.take n)
 have b3 := dv_nonneg (by decide) (du.take n)
 have b4 := dv_lt (by decide) (du.take n)
 rw [List.length_take, Nat.min_eq_left (by omega)] at b2 b4
 refine ⟨⟨pow_pos (by decide) n, ht, a1.2, a2.1, a2.2, b1, b2, by omega, by omega, a5.1, a5.2, b3, b4, ?_⟩, e1, e2⟩
 rw [← e1, ← e2]
 exact hlt
end Go.Proofs.YtekommcfpjonmaaGreat.Nk
namespace Go.Proofs.YtekommcfpjonmaaGreat.Ng
open RowKit Go YtekommcfpjonmaaGreatW.PrintWords YtekommcfpjonmaaGreatW.PrintLast YtekommcfpjonmaaGreatW.PrintMore Ml Mn Nd Z P Nc Ns Nk
theorem getD_app {P Y Z : List Int} (i : Nat) (hi : i < Y.length) : (P ++ (Y ++ Z)).getD (P.length + i) 0 = Y.getD i 0 := by
 simp [List.getD_eq_getElem?_getD, List.getElem?_append_right (Nat.le_add_right _ _), List.getElem?_append_left hi]
theorem set_app {P Y Z : List Int} (i : Nat) (v : Int) (hi : i < Y.length) : (P ++ (Y ++ Z)).set (P.length + i) v = P ++ (Y.set i v ++ Z) := by
 rw [List.set_append_right _ _ (Nat.le_add_right _ _), Nat.add_sub_cancel_left, List.set_append_left _ _ hi]
structure Two (w0 W : World) (gu gv N cu n cv : Nat) (P Z Y V : List Int) : Prop where
 u : Kd.R (Kd.int .u32) 157 W 0 (fun _ => True) (.slice (some ⟨gu, 0, none⟩) N cu) (P ++ (Y ++ Z))
 v : Kd.R (Kd.int .u32) 157 W 0 (fun _ => True) (.slice (some ⟨gv, 0, none⟩) n cv) V
 g : w0.grownBy W (some gu)
theorem Two.drewN {w0 W : World} {gu gv N cu n cv : Nat} {P Z Y V : List Int} (h : Two w0 W gu gv N cu n cv P Z Y V) (m : Nat) : Two w0 (W.drewN m) gu gv N cu n cv P Z Y V :=
 ⟨Kd.R_drewN h.u m, Kd.R_drewN h.v m, h.g.trans (grown_of_below (pw_below_drewN (Below.refl _ _) m) _)⟩
theorem Two.ucell {w0 W : World} {gu gv N cu n cv : Nat} {P Z Y V : List Int} (h : Two w0 W gu gv N cu n cv P Z Y V) (i : Nat) (hi : i < Y.length) : W.cell? ⟨gu, P.length + i, none⟩ = some (.int .u32 (Y.getD i 0)) ∧ W.frozen? ⟨gu, P.length + i, none⟩ = false := by
 have h1 := Kd.R_reads' h.u
 have := own_cell h.u (P.length + i) (by rw [h1.1]; simp; omega)
 rwa [getD_app i hi] at this
theorem Two.vcell {w0 W : World} {gu gv N cu n cv : Nat} {P Z Y V : List Int} (h : Two w0 W gu gv N cu n cv P Z Y V) (i : Nat) (hi : i < n) : W.cell? ⟨gv, i, none⟩ = some (.int .u32 (V.getD i 0)) := (own_cell h.v i hi).1
theorem Two.put {w0 W : World} {gu gv N cu n cv : Nat} {P Z Y V : List Int} (h : Two w0 W gu gv N cu n cv P Z Y V) (hne : gv ≠ gu) (i : Nat) (hi : i < Y.length) (x : Int) : Two w0 (W.setCell ⟨gu, P.length + i, none⟩ (.int .u32 x)) gu gv N cu n cv P Z (Y.set i x) V := by
 refine ⟨?_, ?_, ?_⟩
 ·have := own_put h.u (P.length + i) x
  rwa [set_app i x hi] at this
 ·refine Kd.R_mono (ok := fun k => k = gv) (Kd.R_far (p := ⟨gu, P.length + i, none⟩) (Kd.R_mono (Kd.R_tight rfl h.v) (fun k hk => ?_)) (fun k hk => ?_) _) (fun _ _ => trivial)
  ·simpa [Value.ownBlock] using hk
  rw [hk]; exact hne
 have := (Kd.R_putg h.u ((P.length + i : Nat) : Int) x).2
 rw [Int.toNat_natCast] at this
 exact h.g.trans this
structure GsI (V Y : List Int) (n : Nat) (Q q r : Int) : Prop where
 qr : q * V.getD (n + 1) 0 + r = Y.getD (n + 2) 0 * 4294967296 + Y.getD (n + 1) 0
 le : Q ≤ q
 r0 : 0 ≤ r
def GsP (V Y : List Int) (q : Int) : Prop := 0 ≤ q ∧ q < 4294967296 ∧ -dv 4294967296 V ≤ dv 4294967296 Y - q * dv 4294967296 V ∧ dv 4294967296 Y - q * dv 4294967296 V < dv 4294967296 V
abbrev KnO (V Y : List Int) (n : Nat) : Prop := Kn (V.getD (n + 1) 0) (V.getD n 0) (dv 4294967296 (V.take n)) (Y.getD (n + 2) 0 * 4294967296 + Y.getD (n + 1) 0) (Y.getD n 0) (dv 4294967296 (Y.take n)) (pw 4294967296 n)
abbrev QtO (V Y : List Int) (n : Nat) (Q : Int) : Prop := Qt (V.getD (n + 1) 0) (V.getD n 0) (dv 4294967296 (V.take n)) (Y.getD (n + 2) 0 * 4294967296 + Y.getD (n + 1) 0) (Y.getD n 0) (dv 4294967296 (Y.take n)) (pw 4294967296 n) Q
theorem GsI.next {V Y : List Int} {n : Nat} {Q q r : Int} (h : GsI V Y n Q q r) (hK : KnO V Y n) (hQ : QtO V Y n Q) (ht : 4294967296 ≤ q ∨ r * 4294967296 + Y.getD n 0 < q * V.getD n 0) : GsI V Y n Q (q - 1) (r + V.getD (n + 1) 0) ∧ 1 ≤ q := by
 have h1 := hK.step hQ h.qr h.le ht
 have h2 := hQ.q0
 refine ⟨⟨?_, h1, by have := h.r0; have := hK.v1a; omega⟩, by omega⟩
 have := h.qr
 rw [← this]
 grind
theorem GsI.done {V Y : List Int} {n : Nat} {Q q r : Int} (h : GsI V Y n Q q r) (hK : KnO V Y n) (hQ : QtO V Y n Q)
  (hS : dv 4294967296 V = (V.getD (n + 1) 0 * 4294967296 + V.getD n 0) * pw 4294967296 n + dv 4294967296 (V.take n) ∧ dv 4294967296 Y = ((Y.getD (n + 2) 0 * 4294967296 + Y.getD (n + 1) 0) * 4294967296 + Y.getD n 0) * pw 4294967296 n + dv 4294967296 (Y.take n))
  (ht : 4294967296 ≤ r ∨ (q < 4294967296 ∧ q * V.getD n 0 ≤ r * 4294967296 + Y.getD n 0)) : GsP V Y q := by
 have h2 := hQ.q0
 have h3 := h.le
 have h4 : q < 4294967296 := by
  rcases ht with ht | ht
  ·exact hK.small h.qr ht
  exact ht.1
 have h5 := hK.pass hQ h.qr h3 h4 h.r0 (ht.imp id And.right)
 have h6 := hK.left hQ h3 h5
 rw [← hS.1, ← hS.2] at h6
 exact ⟨by omega, h4, h6⟩
structure SbI (V Y0 : List Int) (q : Int) (i : Nat) (c b : Int) (Y : List Int) : Prop where
 c0 : 0 ≤ c
 c1 : c < 4294967296
 b0 : 0 ≤ b
 b1 : b ≤ 1
 dg : Dg 4294967296 Y
 len : Y.length = Y0.length
 val : dv 4294967296 (Y.take i) - (c + b) * pw 4294967296 i = dv 4294967296 (Y0.take i) - q * dv 4294967296 (V.take i)
 same : ∀ m, i ≤ m → Y.getD m 0 = Y0.getD m 0
theorem take_set {l : List Int} {i : Nat} {v : Int} : (l.set i v).take i = l.take i := by
 rw [List.take_set]
 exact List.set_eq_of_length_le (by simp; omega)
theorem dv_take_set {l : List Int} {i : Nat} {v : Int} (hi : i < l.length) : dv 4294967296 ((l.set i v).take (i + 1)) = dv 4294967296 (l.take i) + v * pw 4294967296 i := by
 rw [dv_take_succ', take_set, getD_set_self hi]
theorem sb_num {u x b : Int} (hu0 : 0 ≤ u) (hu1 : u < 4294967296) (hx : 0 ≤ x) (hb0 : 0 ≤ b) (hb1 : b ≤ 1) :
  ∃ r b', IntKind.u64.wrap (IntKind.u64.wrap (u - x % 4294967296) - b) % 4294967296 = r ∧ IntKind.u64.wrap (IntKind.u64.wrap (u - x % 4294967296) - b) / 9223372036854775808 = b' ∧ 0 ≤ r ∧ r < 4294967296 ∧ 0 ≤ b' ∧ b' ≤ 1 ∧ u - x % 4294967296 - b = r - 4294967296 * b' := by
 rw [u64m, u64m]
 exact ⟨_, _, rfl, rfl, by omega, by omega, by omega, by omega, by omega⟩
theorem SbI.step {V Y0 Y : List Int} {q c b : Int} {i : Nat} (h : SbI V Y0 q i c b Y) (hV : Dg 4294967296 V) (hq0 : 0 ≤ q) (hq1 : q < 4294967296) (hi : i < Y.length) :
  SbI V Y0 q (i + 1) ((c + q * V.getD i 0) / 4294967296) (IntKind.u64.wrap (IntKind.u64.wrap (Y.getD i 0 - (c + q * V.getD i 0) % 4294967296) - b) / 9223372036854775808)
   (Y.set i (IntKind.u64.wrap (IntKind.u64.wrap (Y.getD i 0 - (c + q * V.getD i 0) % 4294967296) - b) % 4294967296)) := by
 have h1 := hV.getD (by decide) i
 have h2 := h.dg.getD (by decide) i
 have h3 := mul_lt_sq hq0 hq1 h1.1 h1.2
 have c0 := h.c0
 have c1 := h.c1
 obtain ⟨x, hx⟩ : ∃ x, x = c + q * V.getD i 0 := ⟨_, rfl⟩
 rw [← hx]
 have hx0 : 0 ≤ x := by omega
 have hx1 : x ≤ 18446744069414584320 := by omega
 obtain ⟨r, b', hr, hb, r0, r1, b0, b1, he⟩ := sb_num h2.1 h2.2 hx0 h.b0 h.b1
 rw [hr, hb]
 refine ⟨by omega, by omega, b0, b1, h.dg.set _ r0 r1, by simpa using h.len, ?_, fun m hm => by rw [getD_set (by omega)]; exact h.same m (by omega)⟩
 rw [dv_take_set hi, dv_take_succ', dv_take_succ', pw_succ, ← h.same i (Nat.le_refl _)]
 have h4 := h.val
 have h5 : x % 4294967296 = x - 4294967296 * (x / 4294967296) := by omega
 rw [h5] at he
 generalize x / 4294967296 = xq at he ⊢
 generalize Y.getD i 0 = u at he ⊢
 generalize V.getD i 0 = y at hx ⊢
 have hr2 : r = u - x + 4294967296 * xq - b + 4294967296 * b' := by omega
 rw [hr2, hx]
 grind
structure AbI (V Y1 : List Int) (i : Nat) (c : Int) (Y : List Int) : Prop where
 c0 : 0 ≤ c
 c1 : c ≤ 1
 dg : Dg 4294967296 Y
 len : Y.length = Y1.length
 val : dv 4294967296 (Y.take i) + c * pw 4294967296 i = dv 4294967296 (Y1.take i) + dv 4294967296 (V.take i)
 same : ∀ m, i ≤ m → Y.getD m 0 = Y1.getD m 0
theorem AbI.step {V Y1 Y : List Int} {c : Int} {i : Nat} (h : AbI V Y1 i c Y) (hV : Dg 4294967296 V) (hi : i < Y.length) :
  AbI V Y1 (i + 1) ((c + (Y.getD i 0 + V.getD i 0)) / 4294967296) (Y.set i ((c + (Y.getD i 0 + V.getD i 0)) % 4294967296)) := by
 have h1 := hV.getD (by decide) i
 have h2 := h.dg.getD (by decide) i
 have c0 := h.c0
 have c1 := h.c1
 obtain ⟨x, hx⟩ : ∃ x, x = c + (Y.getD i 0 + V.getD i 0) := ⟨_, rfl⟩
 rw [← hx]
 refine ⟨by omega, by omega, h.dg.set _ (by omega) (by omega), by simpa using h.len, ?_, fun m hm => by rw [getD_set (by omega)]; exact h.same m (by omega)⟩
 rw [dv_take_set hi, dv_take_succ', dv_take_succ', pw_succ, ← h.same i (Nat.le_refl _)]
 have h4 := h.val
 have h5 : x % 4294967296 = x - 4294967296 * (x / 4294967296) := by omega
 rw [h5]
 generalize x / 4294967296 = xq
 rw [hx]
 grind
theorem SbI.top {V Y0 Y : List Int} {q c b : Int} {n : Nat} (h : SbI V Y0 q (n + 2) c b Y) (hV : V.length = n + 2) (hY : Y0.length = n + 3) :
  dv 4294967296 (Y.take (n + 2)) + (Y.getD (n + 2) 0 - c - b) * pw 4294967296 (n + 2) = dv 4294967296 Y0 - q * dv 4294967296 V := by
 have h1 := h.val
 have h2 := dv_take_succ' 4294967296 Y0 (n + 2)
 rw [List.take_of_length_le (show Y0.length ≤ n + 2 + 1 by omega)] at h2
 rw [List.take_of_length_le (show V.length ≤ n + 2 by omega)] at h1
 rw [h2, h.same (n + 2) (Nat.le_refl _)]
 grind
theorem SbI.two {V Y0 Y : List Int} {q c b : Int} {n : Nat} (h : SbI V Y0 q (n + 2) c b Y) (hV : V.length = n + 2) (hY : Y0.length = n + 3) (dV : Dg 4294967296 V) (hP : GsP V Y0 q) :
  (Y.getD (n + 2) 0 - c - b = 0 ∧ 0 ≤ dv 4294967296 Y0 - q * dv 4294967296 V) ∨ (Y.getD (n + 2) 0 - c - b = -1 ∧ dv 4294967296 Y0 - q * dv 4294967296 V < 0) := by
 have h1 := h.top hV hY
 have h2 := dv_nonneg (by decide) (h.dg.take (n + 2))
 have h3 := dv_lt (by decide) (h.dg.take (n + 2))
 have h4 := dv_lt (by decide) dV
 have h5 := pow_pos (B := 4294967296) (by decide) (n + 2)
 rw [List.length_take, Nat.min_eq_left (by have := h.len; omega)] at h3
 rw [hV] at h4
 have h6 := hP.2.2
 generalize dv 4294967296 Y0 - q * dv 4294967296 V = T at *
 generalize Y.getD (n + 2) 0 - c - b = e at *
 generalize dv 4294967296 (Y.take (n + 2)) = D at *
 generalize pw 4294967296 (n + 2) = M at *
 have h7 : e = 0 ∨ e = -1 ∨ 1 ≤ e ∨ e ≤ -2 := by omega
 rcases h7 with h7 | h7 | h7 | h7
 ·subst h7
  left
  omega
 ·subst h7
  right
  omega
 ·have := Int.mul_le_mul_of_nonneg_right h7 (Int.le_of_lt h5)
  omega
 have := Int.mul_le_mul_of_nonneg_right h7 (Int.le_of_lt h5)
 omega
theorem SbI.fin {V Y0 Y : List Int} {q c b : Int} {n : Nat} (h : SbI V Y0 q (n + 2) c b Y) (hV : V.length = n + 2) (hY : Y0.length = n + 3) (hP : GsP V Y0 q) (he : Y.getD (n + 2) 0 - c - b = 0) :
  (Y.set (n + 2) 0).length = n + 3 ∧ Dg 4294967296 (Y.set (n + 2) 0) ∧ dv 4294967296 Y0 = q * dv 4294967296 V + dv 4294967296 (Y.set (n + 2) 0) ∧ dv 4294967296 (Y.set (n + 2) 0) < dv 4294967296 V := by
 have h1 := h.top hV hY
 have h2 := dv_take_set (l := Y) (i := n + 2) (v := 0) (by have := h.len; omega)
 rw [List.take_of_length_le (by have := h.len; simp; omega)] at h2
 rw [he] at h1
 have h6 := hP.2.2
 refine ⟨by have := h.len; simp; omega, h.dg.set _ (by omega) (by omega), by omega, by omega⟩
theorem AbI.fin {V Y0 Y Y1 : List Int} {q c : Int} {n : Nat} (h : AbI V Y1 (n + 2) c Y) (hV : V.length = n + 2) (hY1 : Y1.length = n + 3) (hP : GsP V Y0 q) (hT : dv 4294967296 Y0 - q * dv 4294967296 V < 0) (h1 : dv 4294967296 (Y1.take (n + 2)) - pw 4294967296 (n + 2) = dv 4294967296 Y0 - q * dv 4294967296 V) :
  c = 1 ∧ (Y.set (n + 2) 0).length = n + 3 ∧ Dg 4294967296 (Y.set (n + 2) 0) ∧ dv 4294967296 Y0 = (q - 1) * dv 4294967296 V + dv 4294967296 (Y.set (n + 2) 0) ∧ dv 4294967296 (Y.set (n + 2) 0) < dv 4294967296 V := by
 have h2 := h.val
 rw [List.take_of_length_le (show V.length ≤ n + 2 by omega)] at h2
 have h3 := dv_take_set (l := Y) (i := n + 2) (v := 0) (by have := h.len; omega)
 rw [List.take_of_length_le (by have := h.len; simp; omega)] at h3
 have h4 := dv_lt (by decide) (h.dg.take (n + 2))
 rw [List.length_take, Nat.min_eq_left (by have := h.len; omega)] at h4
 have h6 := hP.2.2
 have c0 := h.c0
 have c1 := h.c1
 have hc : c = 1 := by
  rcases (show c = 0 ∨ c = 1 by omega) with e | e
  ·rw [e] at h2
   omega
  exact e
 rw [hc] at h2
 have e1 : (q - 1) * dv 4294967296 V = q * dv 4294967296 V - dv 4294967296 V := by grind
 refine ⟨hc, by have := h.len; simp; omega, h.dg.set _ (by omega) (by omega), by rw [e1]; omega, by omega⟩
def DigP (w0 : World) (gu gv N cu n cv : Nat) (P Z Y V : List Int) (e : Ending) (w' : World) : Prop := ∃ q Y', e = .returned (.int .u32 q) ∧ Two w0 w' gu gv N cu (n + 2) cv P Z Y' V ∧ Y'.length = n + 3 ∧ Dg 4294967296 Y' ∧ 0 ≤ q ∧ q < 4294967296 ∧ dv 4294967296 Y = q * dv 4294967296 V + dv 4294967296 Y' ∧ dv 4294967296 Y' < dv 4294967296 V
theorem digit_n (w0 W : World) (gu gv N cu cv n c2 : Nat) (P Z Y V : List Int) (hne : gv ≠ gu) (H2 : Two w0 W gu gv N cu (n + 2) cv P Z Y V) (hV : V.length = n + 2) (hY : Y.length = n + 3) (dV : Dg 4294967296 V) (dY : Dg 4294967296 Y) (htop : 2147483648 ≤ V.getD (n + 1) 0) (hlt : dv 4294967296 Y < dv 4294967296 V * 4294967296) (hn : n ≤ 1000000) (hP : P.length ≤ 1000000) :
  Calls Tryz.prog 181 #[.slice (some ⟨gu, P.length, none⟩) (n + 3) c2, .slice (some ⟨gv, 0, none⟩) (n + 2) cv] W (DigP w0 gu gv N cu n cv P Z Y V) := by
 obtain ⟨hK, eV, eY⟩ := Kn.of V Y n hV hY dV dY htop hlt
 obtain ⟨Q, hQ⟩ : ∃ Q, Qt (V.getD (n + 1) 0) (V.getD n 0) (dv 4294967296 (V.take n)) (Y.getD (n + 2) 0 * 4294967296 + Y.getD (n + 1) 0) (Y.getD n 0) (dv 4294967296 (Y.take n)) (pw 4294967296 n) Q := ⟨_, hK.qt⟩
 have u0 := (H2.ucell (n + 2) (by omega)).1
 have u1 := (H2.ucell (n + 1) (by omega)).1
 have v1 := H2.vcell (n + 1) (by omega)
 have b0 := dY.getD (by decide) (n + 2)
 have b1 := dY.getD (by decide) (n + 1)
 have b2 := dV.getD (by decide) (n + 1)
 generalize hy2 : Y.getD (n + 2) 0 = y2 at u0 b0
 generalize hy1 : Y.getD (n + 1) 0 = y1 at u1 b1
 generalize hv1 : V.getD (n + 1) 0 = x1 at v1 b2 htop
 obtain ⟨b00, b01⟩ := b0
 obtain ⟨b10, b11⟩ := b1
 obtain ⟨b20, b21⟩ := b2
 have hor : bits BinOp.or IntKind.u64 (y2 * 4294967296) y1 = y2 * 4294967296 + y1 := or_high _ _ 32 (by omega) (by omega) (by omega) b10 (by omega) (by omega)
 have HE := aS (And.intro hy2 (And.intro hy1 hv1))
 have HK := aS hK
 have HQ := aS hQ
 have HS := aS (And.intro eV eY)
 have HD := aS (And.intro dV (And.intro dY (And.intro hV hY)))
 have HT := aS H2
 clear hy2 hy1 hv1 hK hQ eV eY dV dY hV hY H2 hlt
 go_enter Tryz.func181, Tryz.ntmps181
 go_wp2_with fail
 go_quiet (fail)
 go_wp2_with fail
 go_quiet (fail)
 generalize hq : World.drewN (World.drewN W _) _ = W1
 have HT1 := aS (show Two w0 W1 gu gv N cu (n + 2) cv P Z Y V by rw [← hq]; exact (HT.out.drewN _).drewN _)
 clear hq HT u0 u1 v1
 go_upto_block 0 with fail
 go_cut [7] (fun q w' => ∃ z : Int, q = .int .u64 z ∧ Aside0 (GsP V Y z) ∧ Aside0 (Two w0 w' gu gv N cu (n + 2) cv P Z Y V))
 case first =>
  have hx1 : 0 < x1 := by omega
  have htt : 0 ≤ y2 * 4294967296 + y1 := by omega
  have e0 : 0 ≤ (y2 * 4294967296 + y1) / x1 := Int.ediv_nonneg htt (by omega)
  have hfirst := HK.out.first HQ.out
  rw [HE.out.1, HE.out.2.1, HE.out.2.2] at hfirst
  have hrem0 := Int.emod_nonneg (y2 * 4294967296 + y1) (show x1 ≠ 0 by omega)
  have hrem1 := Int.emod_lt_of_pos (y2 * 4294967296 + y1) hx1
  have hrem2 := Int.ediv_mul_add_emod (y2 * 4294967296 + y1) x1
  have HI0 := aS (show GsI V Y n Q ((y2 * 4294967296 + y1) / x1) ((y2 * 4294967296 + y1) % x1) from ⟨by rw [HE.out.1, HE.out.2.1, HE.out.2.2]; exact hrem2, hfirst, hrem0⟩)
  have HR0 := aS (show (y2 * 4294967296 + y1) % x1 < 4294967296 by omega)
  have HE0 := aS (show (((((y2 * 4294967296 + y1) / x1).toNat : Nat) : Int)) = (y2 * 4294967296 + y1) / x1 by omega)
  clear hfirst hrem0 hrem1 hrem2 e0
  have c0 := HD.out.2.1.getD (by decide) n
  have c1 := HD.out.1.getD (by decide) n
  generalize hx2 : V.getD n 0 = x2 at c1
  generalize hy0 : Y.getD n 0 = y0 at c0
  have HF := aS (And.intro hx2 hy0)
  clear hx2 hy0
  obtain ⟨c00, c01⟩ := c0
  obtain ⟨c10, c11⟩ := c1
  go_wp2_with fail
  go_loopg [7, 8] ((y2 * 4294967296 + y1) / x1).toNat (fun kq v7 v8 w' => ∃ q r : Int, v7 = .int .u64 q ∧ v8 = .int .u64 r ∧ Aside0 ((kq : Int) = q) ∧ Aside0 (GsI V Y n Q q r) ∧ Aside0 (r < 4294967296) ∧ Aside0 (Two w0 w' gu gv N cu (n + 2) cv P Z Y V))
  case atStart =>
   exact ⟨_, _, rfl, rfl, HE0, HI0, HR0, HT1⟩
  case round =>
   clear HI0 HE0 HT1 HR0
   obtain ⟨q, r, rfl, rfl, HKq, HI, HR, HT1⟩ := hrel
   have v1 := HT1.out.vcell (n + 1) (by omega)
   rw [HE.out.2.2] at v1
   have v2 := HT1.out.vcell n (by omega)
   rw [HF.out.1] at v2
   have u2 := (HT1.out.ucell n (by rw [HD.out.2.2.2]; omega)).1
   rw [HF.out.2] at u2
   have r0 := HI.out.r0
   have r1 := HR.out
   have q0 : 0 ≤ q := Int.le_trans HQ.out.q0 HI.out.le
   have hqr := HI.out.qr
   rw [HE.out.1, HE.out.2.1, HE.out.2.2] at hqr
   have qx : q ≤ q * x1 := by
    have := Int.mul_le_mul_of_nonneg_left (show 1 ≤ x1 by omega) q0
    omega
   have q1 : q < 18446744073709551616 := by omega
   clear qx hqr
   have HK1 := aS (show (KnO V Y n) ∧ QtO V Y n Q from ⟨HK.out, HQ.out⟩)
   have hgo : 4294967296 ≤ q ∨ ¬ 4294967296 ≤ q := by omega
   by_cases hr : 4294967296 ≤ r + x1
   ·have hgr : decide (0 < (r + x1) / 4294967296) = true := decide_eq_true (by omega)
    rcases hgo with hq | hq
    ·obtain ⟨hI, h1q⟩ := HI.out.next HK1.out.1 HK1.out.2 (.inl hq)
     have HD2 := aS (hI.done HK1.out.1 HK1.out.2 HS.out (.inl (by rw [HE.out.2.2]; exact hr)))
     have hg : decide (0 < q / 4294967296) = true := decide_eq_true (by omega)
     clear hI
     go_wp2_with fail
     go_quiet (fail)
     go_wp2_with fail
     go_meet
     exact ⟨q - 1, rfl, HD2, ⟨HT1.out.drewN _⟩⟩
    have hg : decide (0 < q / 4294967296) = false := decide_eq_false (by omega)
    have hp := mul_lt_sq q0 (show q < 4294967296 by omega) c10 c11
    obtain ⟨hp0, hp1⟩ := hp
    have hor2 : bits BinOp.or IntKind.u64 (r * 4294967296) y0 = r * 4294967296 + y0 := or_high _ _ 32 (by omega) (by omega) (by omega) c00 (by omega) (by omega)
    by_cases ht : r * 4294967296 + y0 < q * x2
    ·obtain ⟨hI, h1q⟩ := HI.out.next HK1.out.1 HK1.out.2 (.inr (by rw [HF.out.1, HF.out.2]; exact ht))
     have HD2 := aS (hI.done HK1.out.1 HK1.out.2 HS.out (.inl (by rw [HE.out.2.2]; exact hr)))
     clear hI
     go_wp2_with fail
     go_quiet (fail)
     go_wp2_with fail
     go_meet
     exact ⟨q - 1, rfl, HD2, ⟨HT1.out.drewN _⟩⟩
    have HD2 := aS (HI.out.done HK1.out.1 HK1.out.2 HS.out (.inr ⟨by omega, by rw [HF.out.1, HF.out.2]; omega⟩))
    go_wp2_with fail
    go_quiet (fail)
    go_wp2_with fail
    go_meet
    exact ⟨q, rfl, HD2, ⟨HT1.out.drewN _⟩⟩
   have hgr : decide (0 < (r + x1) / 4294967296) = false := decide_eq_false (by omega)
   rcases hgo with hq | hq
   ·obtain ⟨hI, h1q⟩ := HI.out.next HK1.out.1 HK1.out.2 (.inl hq)
    rw [HE.out.2.2] at hI
    have HD2 := aS hI
    have hg : decide (0 < q / 4294967296) = true := decide_eq_true (by omega)
    have HRR := aS (show r + x1 < 4294967296 by omega)
    clear hI
    go_wp2_with fail
    go_quiet (fail)
    go_wp2_with fail
    go_roundg (gk - 1)
    case measure => have := HKq.out; omega
    case rel => exact ⟨q - 1, r + x1, rfl, rfl, ⟨by have := HKq.out; omega⟩, HD2, HRR, ⟨HT1.out.drewN _⟩⟩
   have hg : decide (0 < q / 4294967296) = false := decide_eq_false (by omega)
   have hp := mul_lt_sq q0 (show q < 4294967296 by omega) c10 c11
   obtain ⟨hp0, hp1⟩ := hp
   have hor2 : bits BinOp.or IntKind.u64 (r * 4294967296) y0 = r * 4294967296 + y0 := or_high _ _ 32 (by omega) (by omega) (by omega) c00 (by omega) (by omega)
   by_cases ht : r * 4294967296 + y0 < q * x2
   ·obtain ⟨hI, h1q⟩ := HI.out.next HK1.out.1 HK1.out.2 (.inr (by rw [HF.out.1, HF.out.2]; exact ht))
    rw [HE.out.2.2] at hI
    have HD2 := aS hI
    have HRR := aS (show r + x1 < 4294967296 by omega)
    clear hI
    go_wp2_with fail
    go_quiet (fail)
    go_wp2_with fail
    go_roundg (gk - 1)
    case measure => have := HKq.out; omega
    case rel => exact ⟨q - 1, r + x1, rfl, rfl, ⟨by have := HKq.out; omega⟩, HD2, HRR, ⟨HT1.out.drewN _⟩⟩
   have HD2 := aS (HI.out.done HK1.out.1 HK1.out.2 HS.out (.inr ⟨by omega, by rw [HF.out.1, HF.out.2]; omega⟩))
   go_wp2_with fail
   go_quiet (fail)
   go_wp2_with fail
   go_meet
   exact ⟨q, rfl, HD2, ⟨HT1.out.drewN _⟩⟩
 case rest =>
  obtain ⟨q, rfl, HG, HT⟩ := hcut
  clear HK HQ HS HE HT1 hor
  have q0 := HG.out.1
  have q1 := HG.out.2.1
  have HS0 := aS (show SbI V Y q 0 0 0 Y from ⟨by omega, by omega, by omega, by omega, HD.out.2.1, rfl, by simp [dv, pw], fun _ _ => rfl⟩)
  go_wp2_with fail
  go_loopg [9, 10, 87] (n + 2) (fun kq v9 v10 v87 w' => ∃ (i : Nat) (c b : Int) (Y9 : List Int), v9 = .int .u64 c ∧ v10 = .int .u64 b ∧ v87 = .int .i64 (i : Int) ∧ Aside0 (i + kq = n + 2) ∧ Aside0 (SbI V Y q i c b Y9) ∧ Aside0 (Two w0 w' gu gv N cu (n + 2) cv P Z Y9 V))
  case atStart => exact ⟨0, 0, 0, Y, rfl, rfl, rfl, ⟨by omega⟩, HS0, HT⟩
  case round =>
   clear HT HS0
   obtain ⟨i, c, b, Y9, rfl, rfl, rfl, HK, HI, HT⟩ := hrel
   have hc0 := HI.out.c0
   have hc1 := HI.out.c1
   have hb0 := HI.out.b0
   have hb1 := HI.out.b1
   cases gk with
   | zero =>
    have hi : i = n + 2 := HK.out
    subst hi
    have htwo := HI.out.two HD.out.2.2.1 HD.out.2.2.2 HD.out.1 HG.out
    have hlz : Y9.length = n + 3 := by rw [HI.out.len]; exact HD.out.2.2.2
    obtain ⟨hu, hf⟩ := HT.out.ucell (n + 2) (by omega)
    have hz := HI.out.dg.getD (by decide) (n + 2)
    rcases htwo with ⟨he, h0⟩ | ⟨he, h0⟩
    ·have HF := aS (HI.out.fin HD.out.2.2.1 HD.out.2.2.2 HG.out he)
     have HLN := aS (show n + 2 < Y9.length by omega)
     have hd : IntKind.u64.wrap (IntKind.u64.wrap (Y9.getD (n + 2) 0 - c) - b) = 0 := by
      rw [u64m, u64m]
      omega
     generalize hun : Y9.getD (n + 2) 0 = un at hu hd he hz
     obtain ⟨hz0, hz1⟩ := hz
     have hd2 : ((0 : Int) / 9223372036854775808 == 0) = true := by decide
     clear h0 he hlz hun
     go_wp2_with fail
     go_ret
     exact ⟨q, Y9.set (n + 2) 0, rfl, HT.out.put hne (n + 2) HLN.out 0, HF.out.1, HF.out.2.1, q0, q1, HF.out.2.2.1, HF.out.2.2.2⟩
    have htp := HI.out.top HD.out.2.2.1 HD.out.2.2.2
    rw [he, Int.neg_mul, Int.one_mul, ← Int.sub_eq_add_neg] at htp
    have hd : IntKind.u64.wrap (IntKind.u64.wrap (Y9.getD (n + 2) 0 - c) - b) = 18446744073709551615 := by
     rw [u64m, u64m]
     omega
    have q2 : 1 ≤ q := by
     rcases (show q = 0 ∨ 1 ≤ q by omega) with e | e
     ·have := dv_nonneg (by decide) HD.out.2.1
      rw [e] at h0
      omega
     exact e
    have hz9 : dv 4294967296 ((Y9.set (n + 2) 4294967295).take (n + 2)) = dv 4294967296 (Y9.take (n + 2)) := by rw [take_set]
    rw [← hz9] at htp
    have HA0 := aS (show AbI V (Y9.set (n + 2) 4294967295) 0 0 (Y9.set (n + 2) 4294967295) from ⟨by omega, by omega, HI.out.dg.set _ (by omega) (by omega), rfl, by simp [dv, pw], fun _ _ => rfl⟩)
    have HT3 := aS (HT.out.put hne (n + 2) (by omega) 4294967295)
    have HL1 := aS (show (Y9.set (n + 2) 4294967295).length = n + 3 by simp; omega)
    have HZ9 := aS (show (Y9.set (n + 2) 4294967295).getD (n + 2) 0 = 4294967295 from getD_set_self (by omega))
    have HTP := aS htp
    have H0 := aS h0
    obtain ⟨hz0, hz1⟩ := hz
    generalize hun : Y9.getD (n + 2) 0 = un at hu hd hz0 hz1
    have hd2 : ((18446744073709551615 : Int) / 9223372036854775808 == 0) = false := by decide
    clear h0 he hlz hun hz9 htp HT
    generalize hZ1 : Y9.set (n + 2) 4294967295 = Z1 at *
    clear hZ1
    go_wp2_with fail
    go_loopg [15, 140] (n + 2) (fun kq v15 v140 w' => ∃ (i : Nat) (c : Int) (Y9 : List Int), v15 = .int .u64 c ∧ v140 = .int .i64 (i : Int) ∧ Aside0 (i + kq = n + 2) ∧ Aside0 (AbI V Z1 i c Y9) ∧ Aside0 (Two w0 w' gu gv N cu (n + 2) cv P Z Y9 V))
    case atStart => exact ⟨0, 0, Z1, rfl, rfl, ⟨by omega⟩, HA0, HT3⟩
    case round =>
     clear HT3 HA0 hu hf hd hd2 HI hz0 hz1 HK hc0 hc1 hb0 hb1
     obtain ⟨i, c, Y9, rfl, rfl, HK, HI, HT⟩ := hrel
     have hc0 := HI.out.c0
     have hc1 := HI.out.c1
     cases gk with
     | zero =>
      have hi : i = n + 2 := HK.out
      subst hi
      have HF := aS (HI.out.fin HD.out.2.2.1 HL1.out HG.out H0.out HTP.out)
      obtain ⟨hu, hf⟩ := HT.out.ucell (n + 2) (by rw [HI.out.len, HL1.out]; omega)
      have hce : c = 1 := HF.out.1
      subst hce
      have HLN := aS (show n + 2 < Y9.length by rw [HI.out.len, HL1.out]; omega)
      rw [HI.out.same (n + 2) (Nat.le_refl _), HZ9.out] at hu
      have hb9 : decide ((n : Int) + 2 < (n : Int) + 2) = false := decide_eq_false (by omega)
      go_wp2_with fail
      go_ret
      exact ⟨q - 1, Y9.set (n + 2) 0, rfl, HT.out.put hne (n + 2) HLN.out 0, HF.out.2.1, HF.out.2.2.1, by omega, by omega, HF.out.2.2.2.1, HF.out.2.2.2.2⟩
     | succ k1 =>
      have hi : i < n + 2 := by have := HK.out; omega
      have hb9 : decide (i < n + 2) = true := decide_eq_true hi
      have hzl : Y9.length = n + 3 := by rw [HI.out.len]; exact HL1.out
      have hv := HT.out.vcell i hi
      obtain ⟨hu, hf⟩ := HT.out.ucell i (by omega)
      have hst := HI.out.step HD.out.1 (by omega)
      have hz := HI.out.dg.getD (by decide) i
      have hy := HD.out.1.getD (by decide) i
      generalize V.getD i 0 = y at hv hst hy
      generalize Y9.getD i 0 = u at hu hst hz
      obtain ⟨hz0, hz1⟩ := hz
      obtain ⟨hy0, hy1⟩ := hy
      have HST := aS hst
      have HLN := aS (show i < Y9.length by omega)
      clear hst hzl
      go_wp2_with fail
      go_roundg k1
      case measure => omega
      case rel =>
       exact ⟨i + 1, _, _, rfl, by simp, ⟨by have := HK.out; omega⟩, HST, ⟨HT.out.put hne i HLN.out _⟩⟩
   | succ k1 =>
    have hi : i < n + 2 := by have := HK.out; omega
    have hb0 : decide (i < n + 2) = true := decide_eq_true hi
    have hzl : Y9.length = n + 3 := by rw [HI.out.len]; exact HD.out.2.2.2
    have hv := HT.out.vcell i hi
    obtain ⟨hu, hf⟩ := HT.out.ucell i (by omega)
    have hst := HI.out.step HD.out.1 q0 q1 (by omega)
    have hz := HI.out.dg.getD (by decide) i
    have hy := HD.out.1.getD (by decide) i
    generalize V.getD i 0 = y at hv hst hy
    generalize Y9.getD i 0 = u at hu hst hz
    obtain ⟨hz0, hz1⟩ := hz
    obtain ⟨hy0, hy1⟩ := hy
    obtain ⟨hp0, hp1⟩ := mul_lt_sq q0 q1 hy0 hy1
    have HST := aS hst
    have HLN := aS (show i < Y9.length by omega)
    clear hst hzl
    go_wp2_with fail
    go_roundg k1
    case measure => omega
    case rel =>
     refine ⟨i + 1, _, _, _, rfl, rfl, by simp, ⟨by have := HK.out; omega⟩, HST, ⟨HT.out.put hne i HLN.out _⟩⟩
end Go.Proofs.YtekommcfpjonmaaGreat.Ng
namespace Go.Proofs.YtekommcfpjonmaaGreat.Lz
open Go.Shelf
def lays128_ren : Go.Shelf.Ren := ⟨fun | 128 => 168 | n => n, fun | 51 => 157 | 3 => 3 | 4 => 4 | 46 => 127 | 5 => 5 | 9 => 9 | n => n, fun | n => n⟩
def lays133_ren : Go.Shelf.Ren := ⟨fun | 133 => 180 | 128 => 168 | n => n, fun | 51 => 157 | 3 => 3 | 4 => 4 | 46 => 127 | 5 => 5 | 9 => 9 | n => n, fun | n => n⟩
theorem lays133 : Go.Proofs.Lays.n133 Tryz.prog lays133_ren := {
 mixed := by kernel_rfl
 f128 := Tryz.func168.trans (congrArg some (by kernel_rfl))
 f133 := Tryz.func180.trans (congrArg some (by kernel_rfl))
 t3 := Tryz.underlying3
 a3 := Tryz.isAgg3
 z3 := Tryz.sizeOf3
 v3 := Tryz.zeroValue3
 t4 := Tryz.underlying4
 a4 := Tryz.isAgg4
 z4 := Tryz.sizeOf4
 v4 := Tryz.zeroValue4
 t5 := Tryz.underlying5
 a5 := Tryz.isAgg5
 z5 := Tryz.sizeOf5
 v5 := Tryz.zeroValue5
 t9 := Tryz.underlying9
 a9 := Tryz.isAgg9
 z9 := Tryz.sizeOf9
 v9 := Tryz.zeroValue9
 t46 := Tryz.underlying127
 a46 := Tryz.isAgg127
 z46 := Tryz.sizeOf127
 v46 := Tryz.zeroValue127
 t51 := Tryz.underlying157
 a51 := Tryz.isAgg157
 z51 := Tryz.sizeOf157
 v51 := Tryz.zeroValue157 }
theorem bits_LeadingZeros32 (x : Int) (w : World) (h0 : 0 ≤ x) (h1 : x ≤ 4294967295) :
  Calls Tryz.prog 180 #[.int .u32 x] w fun e w' => e = .returned (.int .i64 (32 - (Lib.bitLen x.toNat : Int))) ∧ w' = w := Any.bits_LeadingZeros32 lays133 x w h0 h1
end Go.Proofs.YtekommcfpjonmaaGreat.Lz
namespace Go.Proofs.YtekommcfpjonmaaGreat.Da
open RowKit Go YtekommcfpjonmaaGreatW.PrintWords YtekommcfpjonmaaGreatW.PrintLast YtekommcfpjonmaaGreatW.PrintMore Ml Mn Nd Z P Nc Nb Ns Nk Ng Lz
def ClP (w : World) (l : List Int) (e : Ending) (w' : World) : Prop := ∃ v, e = .returned v ∧ Mag w' v l ∧ Below w.heap.size w w'
theorem clone_n (A : Option Addr) (c : Nat) (l : List Int) (w : World) (hc : l.length ≤ c) (h : Kd.C (Kd.int .u32) w A l.length l) (hn : l.length ≤ 1000000) :
  Calls Tryz.prog 158 #[.slice A l.length c] w (ClP w l) := by
 cases A with
 | none =>
  have hl : l = [] := by
   cases l with
   | nil => rfl
   | cons x l =>
    obtain ⟨ad, ha, _⟩ := h.2.2 (by simp)
    simp at ha
  subst hl
  have hnil := fun (wx : World) => Lib.run_eql_slice_nil (P := Tryz.prog) wx 117 157 none 0 c 0 0 Tryz.underlying117
  clear hn h hc
  have e0 : ([] : List Int).length = 0 := rfl
  rw [e0]
  clear e0
  go_enter Tryz.func158, Tryz.ntmps158
  go_wp2_with fail
  go_ret
  exact ⟨_, rfl, Mag.nil _, Below.refl _ _⟩
 | some ad =>
  have hnil := fun (wx : World) => Lib.run_eql_slice_nil (P := Tryz.prog) wx 117 157 (some ad) l.length c 0 0 Tryz.underlying117
  have HC := aS h
  clear h
  go_enter Tryz.func158, Tryz.ntmps158
  go_wp2_with (first | ((with_reducible refine gate_dst (N := 5) rfl ?_); refine Kd.R_lit (Kd.int .u32) _ 157 ?hg (N := 5) ?hd (xs := ([] : List Int)) (inner := []) (ok := fun _ => True) (okp := fun _ => True) ?hr ?hp (fun _ hk => hk) trivial (Below.refl _ _) (Nat.le_refl _) (by simp) ?_; (case hd => rfl); (case hg => rfl); (case hr => first | (go_simp; done) | (go_simp; rfl)); (case hp => exact Reps.none _ _); intro v5 w3 ho4 hb hg_ hnew_; clear hg_ hnew_; have HO := aS ho4; have HB := aS hb; clear ho4 hb) | ((with_reducible refine gate_builtin (b := .append) (xs := #[.tmp 5, .tmp 6]) rfl ?_); at_builtin; refine Kd.R_append_row (Value.int .u32) (0 : Int) (w0 := w) w.heap.size rfl (.tmp 5) (.tmp 6) 117 157 (.int .u32 0) 4 rfl Tryz.underlying117 info157 rfl (by decide) v5 [] l (some ad) l.length c (fun _ => True) rfl rfl (fun _ _ => trivial) HO.out (Kd.C_below HC.out HB.out) HB.out HB.out.size (by simp; omega) ?_; intro v6 w4 ho5 hb2 hg2 hn2; have HO2 := aS ho5; have HB2 := aS hb2; clear ho5 hb2 hg2 hn2))
  go_ret
  exact ⟨v6, rfl, Mag.ofR HO2.out, HB2.out⟩
structure QrI (a : List Int) (b0 : Int) (m : Nat) (r : Int) (quo : List Int) : Prop where
 r0 : 0 ≤ r
 r1 : r < b0
 dg : Dg 4294967296 quo
 len : quo.length = a.length
 val : dv 4294967296 (a.drop m) = dv 4294967296 (quo.drop m) * b0 + r
theorem QrI.start (a : List Int) (b0 : Int) (hb : 0 < b0) : QrI a b0 a.length 0 (List.replicate a.length 0) :=
 ⟨by omega, hb, Dg.replicate (by decide) _, by simp, by simp [List.drop_of_length_le, dv]⟩
theorem drop_set {l : List Int} {m : Nat} {v : Int} : (l.set m v).drop (m + 1) = l.drop (m + 1) := by
 rw [List.drop_set_of_lt (by omega)]
theorem QrI.step {a quo : List Int} {b0 r : Int} {m : Nat} (h : QrI a b0 (m + 1) r quo) (ha : Dg 4294967296 a) (hm : m < a.length) (hb : b0 < 4294967296) :
  QrI a b0 m ((r * 4294967296 + a.getD m 0) % b0) (quo.set m ((r * 4294967296 + a.getD m 0) / b0 % 4294967296)) := by
 have h1 := ha.getD (by decide) m
 have r0 := h.r0
 have r1 := h.r1
 have hq0 : 0 ≤ (r * 4294967296 + a.getD m 0) / b0 := Int.ediv_nonneg (by omega) (by omega)
 have hq1 : (r * 4294967296 + a.getD m 0) / b0 < 4294967296 := by
  refine Int.ediv_lt_of_lt_mul (by omega) ?_
  have : (r + 1) * 4294967296 ≤ b0 * 4294967296 := Int.mul_le_mul_of_nonneg_right (by omega) (by decide)
  rw [Int.mul_comm 4294967296 b0]
  omega
 rw [Int.emod_eq_of_lt hq0 hq1]
 refine ⟨Int.emod_nonneg _ (by omega), Int.emod_lt_of_pos _ (by omega), h.dg.set _ hq0 hq1, by simpa using h.len, ?_⟩
 rw [dv_drop _ a m hm, dv_drop _ (quo.set m _) m (by simp; have := h.len; omega), drop_set, getD_set_self (by have := h.len; omega), h.val]
 have h2 := Int.ediv_mul_add_emod (r * 4294967296 + a.getD m 0) b0
 generalize (r * 4294967296 + a.getD m 0) / b0 = q at *
 generalize (r * 4294967296 + a.getD m 0) % b0 = s at *
 grind
def DivP (w : World) (la lb : List Int) (e : Ending) (w' : World) : Prop := ∃ v0 v1 q r, e = .returned (.tuple #[v0, v1]) ∧ Mag w' v0 q ∧ Mag w' v1 r ∧ Cn 4294967296 q ∧ Cn 4294967296 r ∧ q.length ≤ la.length ∧ r.length ≤ lb.length ∧ dv 4294967296 la = dv 4294967296 q * dv 4294967296 lb + dv 4294967296 r ∧ dv 4294967296 r < dv 4294967296 lb ∧ Below w.heap.size w w'
theorem divMag_a (A0 : Option Addr) (c0 : Nat) (la : List Int) (A1 : Option Addr) (c1 : Nat) (lb : List Int) (w : World) (h0 : la.length ≤ c0) (r0 : Kd.C (Kd.int .u32) w A0 la.length la) (h1 : lb.length ≤ c1) (r1 : Kd.C (Kd.int .u32) w A1 lb.length lb) (ha : Cn 4294967296 la) (hb : Cn 4294967296 lb) (hn : la.length ≤ 1000) (hm : lb.length ≤ 1000) (hlt : dv 4294967296 la < dv 4294967296 lb) :
  Calls Tryz.prog 159 #[.slice A0 la.length c0, .slice A1 lb.length c1] w (DivP w la lb) := by
 have HR := aS (And.intro r0 r1)
 have HC := aS (And.intro ha hb)
 have HL := aS hlt
 clear r0 r1 ha hb hlt
 go_enter Tryz.func159, Tryz.ntmps159
 go_wp2_with fail
 refine (cmpMag_n A0 c0 la A1 c1 lb w h0 HR.out.1 h1 HR.out.2 HC.out.1 HC.out.2 (by omega) (by omega)).mono ?_
 rintro e w1 ⟨c, rfl, hs, hb1⟩
 have hc : c < 0 := by have := HL.out; unfold Sg at hs; omega
 clear hs
 go_wp2_with fail
 refine (clone_n A0 c0 la w1 h0 (Kd.C_below HR.out.1 hb1) (by omega)).mono ?_
 rintro e w2 ⟨v, rfl, hM, hb2⟩
 go_wp2_with fail
 go_ret2
 refine ⟨_, _, [], la, rfl, Mag.nil _, hM, Cn.nil _, HC.out.1, by simp, ?_, by simp [dv], HL.out, hb1.trans (hb2.mono hb1.size)⟩
 rcases Nat.lt_or_ge lb.length la.length with h | h
 ·have := dv_len (by decide) HC.out.2.dg HC.out.1 h
  have := HL.out
  omega
 exact h
theorem divMag_b (A0 : Option Addr) (c0 : Nat) (la : List Int) (A1 : Option Addr) (c1 : Nat) (x0 : Int) (w : World) (h0 : la.length ≤ c0) (r0 : Kd.C (Kd.int .u32) w A0 la.length la) (h1 : 1 ≤ c1) (r1 : Kd.C (Kd.int .u32) w A1 1 [x0]) (ha : Cn 4294967296 la) (hb : Cn 4294967296 [x0]) (hn : la.length ≤ 1000) (hle : dv 4294967296 [x0] ≤ dv 4294967296 la) :
  Calls Tryz.prog 159 #[.slice A0 la.length c0, .slice A1 1 c1] w (DivP w la [x0]) := by
 have hx := hb.dg x0 (by simp)
 have hx2 : x0 ≠ 0 := by simpa using hb.top (by simp)
 obtain ⟨hx0, hx1⟩ := hx
 have hx3 : 1 ≤ x0 := by omega
 have HR := aS (And.intro r0 r1)
 have HC := aS (And.intro ha hb)
 have HL := aS hle
 have hlen : 0 ≤ (la.length : Int) := by omega
 clear r0 r1 ha hb hle hx2
 go_enter Tryz.func159, Tryz.ntmps159
 go_wp2_with fail
 refine (cmpMag_n A0 c0 la A1 c1 [x0] w h0 HR.out.1 h1 HR.out.2 HC.out.1 HC.out.2 (by omega) (by simp)).mono ?_
 rintro e w1 ⟨c, rfl, hs, hb1⟩
 have hc : 0 ≤ c := by have := HL.out; unfold Sg at hs; omega
 have HB1 := aS hb1
 clear hs hb1
 go_wp2_with ((with_reducible refine gate_dst (N := 25) rfl ?_); refine Kd.R_make (Kd.int .u32) _ 157 rfl (N := 25) rfl 117 _ _ rfl (la.length : Int) rfl rfl Tryz.underlying117 (.int .u32 0) 4 info157 rfl (by decide) (by omega) 0 (ok := fun _ => True) (okp := fun _ => True) rfl (fun _ hk => hk) trivial hlen (by omega) (Below.refl _ _) (Nat.le_refl _) ?_; intro v w5 ho hb hg_ hnew_; clear hg_ hnew_; have HO := aS ho; have HB := aS hb; clear ho hb)
 have hpos : 0 < la.length := by
  rcases Nat.eq_zero_or_pos la.length with h | h
  ·have := HL.out
   rw [List.eq_nil_of_length_eq_zero h] at this
   simp [dv] at this
   omega
  exact h
 obtain ⟨go, co, eo, gb, _, _⟩ := Kd.R_form HO.out (by simpa using hpos)
 have eo2 : v = .slice (some ⟨go, 0, none⟩) la.length co := by rw [eo]; simp
 have HO2 := aS (show Kd.R (Kd.int .u32) 157 w5 0 (fun _ => True) (.slice (some ⟨go, 0, none⟩) la.length co) (List.replicate la.length 0) by have := Kd.R_lower HO.out (Nat.zero_le _); rw [eo2] at this; simpa using this)
 have HB2 := aS (show Below w.heap.size w w5 from HB1.out.trans (HB.out.mono HB1.out.size))
 have gb2 : w.heap.size ≤ go := Nat.le_trans HB1.out.size gb
 subst eo2
 clear HO eo HB HB1
 go_loopg [6, 7] la.length (fun kq v6 v7 w' => ∃ (r z : Int) (quo : List Int), v6 = .int .u64 r ∧ v7 = .int .i64 z ∧ Aside0 (z = (kq : Int) - 1 ∧ kq ≤ la.length) ∧ Aside0 (QrI la x0 kq r quo) ∧ Aside0 (Kd.R (Kd.int .u32) 157 w' 0 (fun _ => True) (.slice (some ⟨go, 0, none⟩) la.length co) quo) ∧ Aside0 (Below w.heap.size w w'))
 case atStart => exact ⟨0, _, _, rfl, rfl, ⟨rfl, Nat.le_refl _⟩, ⟨QrI.start la x0 (by omega)⟩, HO2, HB2⟩
 case round =>
  clear HO2 HB2
  obtain ⟨r, z, quo, rfl, rfl, HK, HI, HO, HB⟩ := hrel
  have hr0 := HI.out.r0
  have hr1 := HI.out.r1
  cases gk with
  | zero =>
   obtain rfl : z = -1 := by have := HK.out.1; omega
   have hb9 : decide ((0 : Int) ≤ -1) = false := by decide
   go_wp2_with fail
   refine (trim_n _ quo _ _ _ HO.out HI.out.dg (by rw [HI.out.len]; omega)).mono ?_
   rintro e w6 ⟨v0, q, rfl, hM0, hc0, hv0, hl0, hb0⟩
   have HQ := aS (And.intro hM0 (And.intro hc0 (And.intro hv0 (And.intro hl0 hb0))))
   clear hM0 hc0 hv0 hl0 hb0
   go_wp2_with fail
   obtain ⟨r2, hf, hcf, hvf, hlf⟩ := magOf_f r hr0 (by omega)
   refine (num_magOf.calls 3 r r2 w6 hf).mono ?_
   rintro e w7 ⟨v1, rfl, hV, hb7⟩
   have HV := aS (And.intro hV (And.intro hcf (And.intro hvf hb7)))
   clear hV hf hcf hvf hlf hb7
   go_wp2_with fail
   go_ret2
   obtain ⟨m0, c0', e0, l0, b0'⟩ := HQ.out
   obtain ⟨m1, c1', e1, b1'⟩ := HV.out
   have hval := HI.out.val
   rw [List.drop_zero, List.drop_zero] at hval
   refine ⟨_, _, q, r2, rfl, m0.below b1', Mag.of m1, c0', c1', by rw [← HI.out.len]; exact l0, ?_, ?_, ?_, HB.out.trans ((b0'.mono HB.out.size).trans (b1'.mono (HB.out.trans (b0'.mono HB.out.size)).size))⟩
   ·refine Nat.le_of_not_lt fun h => ?_
    have h2 := dv_len (by decide) HC.out.2.dg c1' h
    rw [e1] at h2
    simp [dv] at h2
    omega
   ·rw [hval, e0, e1]
    simp [dv]
   rw [e1]
   simp [dv]
   omega
  | succ k1 =>
   obtain rfl : z = (k1 : Int) := by have := HK.out.1; omega
   have hk : k1 < la.length := by have := HK.out.2; omega
   obtain ⟨ada, ea, hac⟩ := mag_cell HR.out.1 HB.out k1 hk
   obtain ⟨adb, eb, hbc⟩ := mag_cell HR.out.2 HB.out 0 (by omega)
   obtain ⟨hy1, hz1⟩ := own_cell HO.out k1 hk
   cases ea
   cases eb
   have hst := HI.out.step HC.out.1.dg hk (by omega)
   have hda := HC.out.1.dg.getD (by decide) k1
   generalize la.getD k1 0 = a at hac hst hda
   obtain ⟨hda0, hda1⟩ := hda
   have hor : bits BinOp.or IntKind.u64 (r * 4294967296) a = r * 4294967296 + a := or_high _ _ 32 (by omega) (by omega) (by omega) hda0 (by omega) (by omega)
   have HST := aS hst
   simp only [Addr.add, if_true, List.getD_cons_zero] at hbc
   have hadb : adb.block ≠ go := by
    obtain ⟨ad, e, hc⟩ := Kd.at_int HR.out.2 0 (by omega) (by omega)
    cases e
    have := World.block_lt_of_cell? w _ hc
    simp only [Int.toNat_zero, Addr.add, if_true] at this
    omega
   have hbc3 : ∀ u, (wr.setCell ⟨go, k1, none⟩ u).cell? adb = some (.int .u32 x0) := fun u => (World.cell?_of_block (w := wr) (Below.heap_setCell wr ⟨go, k1, none⟩ u adb.block hadb)).trans hbc
   clear hst hadb
   go_wp2_with fail
   go_roundg k1
   case measure => omega
   case rel =>
    refine ⟨_, _, _, rfl, rfl, ⟨by have := HK.out; omega⟩, HST, ⟨own_put HO.out k1 _⟩, ⟨HB.out.setCell gb2 _⟩⟩
end Go.Proofs.YtekommcfpjonmaaGreat.Da
namespace Go.Proofs.YtekommcfpjonmaaGreat.Db
open RowKit Go YtekommcfpjonmaaGreatW.PrintWords YtekommcfpjonmaaGreatW.PrintLast YtekommcfpjonmaaGreatW.PrintMore Ml Mn Nd Z P Nc Nb Ns Nk Ng Lz Da
theorem lz_num (x : Int) (h0 : 0 < x) (h1 : x < 4294967296) : ∃ b : Nat, b ≤ 31 ∧ (32 - ((Lib.bitLen x.toNat : Nat) : Int)) = (b : Int) ∧ 2147483648 ≤ x * 2 ^ b ∧ (x + 1) * 2 ^ b ≤ 4294967296 := by
 have hx : ((x.toNat : Nat) : Int) = x := by omega
 obtain ⟨l1, l2, l3⟩ := Lib.bitLenAux_bounds 64 x.toNat (by omega) (by omega)
 have e : Lib.bitLen x.toNat = Lib.bitLenAux 64 x.toNat := rfl
 rw [e]
 generalize Lib.bitLenAux 64 x.toNat = k at *
 generalize x.toNat = n at *
 subst hx
 have hk : k ≤ 32 := by
  refine Nat.le_of_not_lt fun h => ?_
  have : 2 ^ 32 ≤ 2 ^ (k - 1) := Nat.pow_le_pow_right (by decide) (by omega)
  omega
 refine ⟨32 - k, by omega, by omega, ?_, ?_⟩
 ·have h3 : 2 ^ (k - 1) * 2 ^ (32 - k) ≤ n * 2 ^ (32 - k) := Nat.mul_le_mul_right _ l2
  rw [← Nat.pow_add, show k - 1 + (32 - k) = 31 by omega] at h3
  have h4 : ((n * 2 ^ (32 - k) : Nat) : Int) = (n : Int) * 2 ^ (32 - k) := by simp
  rw [← h4]
  omega
 have h3 : (n + 1) * 2 ^ (32 - k) ≤ 2 ^ k * 2 ^ (32 - k) := Nat.mul_le_mul_right _ l3
 rw [← Nat.pow_add, show k + (32 - k) = 32 by omega] at h3
 have h4 : (((n + 1) * 2 ^ (32 - k) : Nat) : Int) = ((n : Int) + 1) * 2 ^ (32 - k) := by simp
 rw [← h4]
 omega
theorem norm_v (lb vl : List Int) (n : Nat) (p : Int) (hp : 0 < p) (hb : Cn 4294967296 lb) (hl : lb.length = n + 2) (dV : Dg 4294967296 vl) (lV : vl.length = n + 3) (vV : dv 4294967296 vl = dv 4294967296 lb * p) (h1 : 2147483648 ≤ lb.getD (n + 1) 0 * p) (h2 : (lb.getD (n + 1) 0 + 1) * p ≤ 4294967296) :
  dv 4294967296 (vl.take (n + 2)) = dv 4294967296 lb * p ∧ 2147483648 ≤ (vl.take (n + 2)).getD (n + 1) 0 := by
 have e1 := dv_take_succ 4294967296 lb (n + 1) (by omega)
 rw [List.take_of_length_le (by omega)] at e1
 have a0 := dv_nonneg (by decide) (hb.dg.take (n + 1))
 have a1 := dv_lt (by decide) (hb.dg.take (n + 1))
 rw [List.length_take, Nat.min_eq_left (by omega)] at a1
 have hM := pow_pos (B := 4294967296) (by decide) (n + 1)
 have e2 := dv_take_succ 4294967296 vl (n + 2) (by omega)
 rw [List.take_of_length_le (by omega), pw_succ] at e2
 have e3 := dv_take_succ 4294967296 vl (n + 1) (by omega)
 have b0 := dv_nonneg (by decide) (dV.take (n + 2))
 have b1 := dv_nonneg (by decide) (dV.take (n + 1))
 have b2 := dv_lt (by decide) (dV.take (n + 1))
 rw [List.length_take, Nat.min_eq_left (by omega)] at b2
 have c0 := dV.getD (by decide) (n + 2)
 generalize dv 4294967296 (lb.take (n + 1)) = ll at *
 generalize lb.getD (n + 1) 0 = t at *
 generalize pw 4294967296 (n + 1) = M at *
 have u1 : dv 4294967296 lb * p < M * 4294967296 := by
  have h3 : dv 4294967296 lb + 1 ≤ (t + 1) * M := by rw [e1, Int.add_mul]; omega
  have h4 : (dv 4294967296 lb + 1) * p ≤ (t + 1) * M * p := Int.mul_le_mul_of_nonneg_right h3 (by omega)
  have h5 : (t + 1) * M * p = (t + 1) * p * M := by grind
  have h6 : (t + 1) * p * M ≤ 4294967296 * M := Int.mul_le_mul_of_nonneg_right h2 (by omega)
  rw [Int.add_mul] at h4
  omega
 have u2 : 2147483648 * M ≤ dv 4294967296 lb * p := by
  have h3 : t * p * M ≤ dv 4294967296 lb * p := by
   have h4 : t * M * p ≤ dv 4294967296 lb * p := Int.mul_le_mul_of_nonneg_right (by omega) (by omega)
   have h5 : t * p * M = t * M * p := by grind
   omega
  have h4 : 2147483648 * M ≤ t * p * M := Int.mul_le_mul_of_nonneg_right h1 (by omega)
  omega
 have z : vl.getD (n + 2) 0 = 0 := by
  refine Int.le_antisymm (Int.le_of_not_gt fun h => ?_) c0.1
  have h3 : 1 * (M * 4294967296) ≤ vl.getD (n + 2) 0 * (M * 4294967296) := Int.mul_le_mul_of_nonneg_right (by omega) (by omega)
  omega
 have hv : dv 4294967296 (vl.take (n + 2)) = dv 4294967296 lb * p := by rw [z] at e2; omega
 refine ⟨hv, ?_⟩
 have e4 : (vl.take (n + 2)).getD (n + 1) 0 = vl.getD (n + 1) 0 := by
  simp [List.getD_eq_getElem?_getD, List.getElem?_take]
 rw [e4]
 refine Int.le_of_not_gt fun h => ?_
 rw [hv] at e3
 have h3 : (vl.getD (n + 1) 0 + 1) * M ≤ 2147483648 * M := Int.mul_le_mul_of_nonneg_right (by omega) (by omega)
 rw [Int.add_mul] at h3
 omega
structure LdI (ul V : List Int) (n m : Nat) (U quo : List Int) : Prop where
 dU : Dg 4294967296 U
 lU : U.length = ul.length
 dq : Dg 4294967296 quo
 lq : quo.length = ul.length - n - 2
 top : dv 4294967296 (U.drop m) < dv 4294967296 V
 val : dv 4294967296 ul = dv 4294967296 U + dv 4294967296 (quo.drop m) * dv 4294967296 V * pw 4294967296 m
theorem LdI.start (ul V : List Int) (n : Nat) (dU : Dg 4294967296 ul) (hl : n + 3 ≤ ul.length) (hV : V.length = n + 2) (dV : Dg 4294967296 V) (htop : ul.getD (ul.length - 1) 0 < V.getD (n + 1) 0) :
  LdI ul V n (ul.length - n - 2) ul (List.replicate (ul.length - n - 2) 0) := by
 refine ⟨dU, rfl, Dg.replicate (by decide) _, by simp, ?_, by simp [List.drop_of_length_le, dv]⟩
 have e1 := dv_take_succ 4294967296 (ul.drop (ul.length - n - 2)) (n + 1) (by simp; omega)
 rw [List.take_of_length_le (by simp; omega)] at e1
 have e2 : (ul.drop (ul.length - n - 2)).getD (n + 1) 0 = ul.getD (ul.length - 1) 0 := by
  simp only [List.getD_eq_getElem?_getD, List.getElem?_drop]
  congr 2
  omega
 have e3 := dv_take_succ 4294967296 V (n + 1) (by omega)
 rw [List.take_of_length_le (by omega)] at e3
 have a1 := dv_lt (by decide) ((dU.drop (ul.length - n - 2)).take (n + 1))
 rw [List.length_take, Nat.min_eq_left (by simp; omega)] at a1
 have a2 := dv_nonneg (by decide) (dV.take (n + 1))
 have hM := pow_pos (B := 4294967296) (by decide) (n + 1)
 rw [e1, e2, e3]
 have h3 : (ul.getD (ul.length - 1) 0 + 1) * pw 4294967296 (n + 1) ≤ V.getD (n + 1) 0 * pw 4294967296 (n + 1) := Int.mul_le_mul_of_nonneg_right (by omega) (by omega)
 rw [Int.add_mul] at h3
 omega
theorem LdI.win {ul V U quo : List Int} {n m : Nat} (h : LdI ul V n (m + 1) U quo) (hV : V.length = n + 2) (dV : Dg 4294967296 V) (hm : m + 1 ≤ ul.length - n - 2) :
  U = U.take m ++ ((U.drop m).take (n + 3) ++ U.drop (m + (n + 3))) ∧ (U.take m).length = m ∧ ((U.drop m).take (n + 3)).length = n + 3 ∧ Dg 4294967296 ((U.drop m).take (n + 3)) ∧ dv 4294967296 (U.drop (m + (n + 3))) = 0 ∧ dv 4294967296 ((U.drop m).take (n + 3)) < dv 4294967296 V * 4294967296 := by
 have hlU := h.lU
 have e0 : (U.drop m).drop (n + 3) = U.drop (m + (n + 3)) := by rw [List.drop_drop]
 have z : dv 4294967296 (U.drop (m + (n + 3))) = 0 := by
  have h1 := dv_split 4294967296 (U.drop (m + 1)) (n + 2) (by simp; omega)
  rw [List.drop_drop, show m + 1 + (n + 2) = m + (n + 3) by omega] at h1
  have h2 := h.top
  have h3 := dv_lt (by decide) dV
  rw [hV] at h3
  have h4 := dv_nonneg (by decide) ((h.dU.drop (m + 1)).take (n + 2))
  have h5 := dv_nonneg (by decide) (h.dU.drop (m + (n + 3)))
  have hM := pow_pos (B := 4294967296) (by decide) (n + 2)
  refine Int.le_antisymm (Int.le_of_not_gt fun h6 => ?_) h5
  have h7 : pw 4294967296 (n + 2) * 1 ≤ pw 4294967296 (n + 2) * dv 4294967296 (U.drop (m + (n + 3))) := Int.mul_le_mul_of_nonneg_left (by omega) (by omega)
  omega
 refine ⟨?_, by simp; omega, by simp; omega, (h.dU.drop m).take _, z, ?_⟩
 ·rw [← e0, List.take_append_drop, List.take_append_drop]
 have h1 := dv_split 4294967296 (U.drop m) (n + 3) (by simp; omega)
 rw [e0, z] at h1
 have h2 := dv_drop 4294967296 U m (by omega)
 have h3 := h.dU.getD (by decide) m
 have h4 := h.top
 omega
theorem LdI.step {ul V U quo Y' : List Int} {n m : Nat} {q : Int} (h : LdI ul V n (m + 1) U quo) (hV : V.length = n + 2) (dV : Dg 4294967296 V) (hm : m + 1 ≤ ul.length - n - 2) (lY : Y'.length = n + 3) (dY : Dg 4294967296 Y') (q0 : 0 ≤ q) (q1 : q < 4294967296)
  (hq : dv 4294967296 ((U.drop m).take (n + 3)) = q * dv 4294967296 V + dv 4294967296 Y') (hlt : dv 4294967296 Y' < dv 4294967296 V) :
  LdI ul V n m (U.take m ++ (Y' ++ U.drop (m + (n + 3)))) (quo.set m q) := by
 obtain ⟨w1, w2, w3, w4, w5, w6⟩ := h.win hV dV hm
 have hlU := h.lU
 have e1 : (U.take m ++ (Y' ++ U.drop (m + (n + 3)))).drop m = Y' ++ U.drop (m + (n + 3)) := by
  rw [List.drop_append_of_le_length (by omega), List.drop_of_length_le (by omega), List.nil_append]
 have e2 : dv 4294967296 (Y' ++ U.drop (m + (n + 3))) = dv 4294967296 Y' := by rw [dv_append, w5]; omega
 refine ⟨(h.dU.take m).append (dY.append (h.dU.drop _)), by simp; omega, h.dq.set _ q0 q1, by simpa using h.lq, by rw [e1, e2]; exact hlt, ?_⟩
 have e3 := h.val
 rw [dv_append, e2, w2, dv_drop _ (quo.set m q) m (by simp; have := h.lq; omega), drop_set, getD_set_self (by have := h.lq; omega)]
 have e4 : dv 4294967296 U = dv 4294967296 (U.take m) + pw 4294967296 m * (q * dv 4294967296 V + dv 4294967296 Y') := by
  rw [← hq]
  have := dv_split 4294967296 U m (by omega)
  have h2 := dv_split 4294967296 (U.drop m) (n + 3) (by simp; omega)
  rw [List.drop_drop, w5] at h2
  rw [this, h2]
  grind
 rw [e3, e4, pw_succ]
 grind
theorem dn_num {x y p pp : Int} (hp : 0 < p) (hpp : p * pp = 4294967296) (x0 : 0 ≤ x) (x1 : x < 4294967296) (y0 : 0 ≤ y) : p * ((y * 4294967296 + x) / p % 4294967296) = x - x % p + (y % p) * 4294967296 := by
 have ex := Int.ediv_mul_add_emod x p
 have ey := Int.ediv_mul_add_emod y p
 have rx0 := Int.emod_nonneg x (show p ≠ 0 by omega)
 have rx1 := Int.emod_lt_of_pos x hp
 have ry0 := Int.emod_nonneg y (show p ≠ 0 by omega)
 have ry1 := Int.emod_lt_of_pos y hp
 have qx0 : 0 ≤ x / p := Int.ediv_nonneg x0 (by omega)
 generalize x / p = xq at *
 generalize y / p = yq at *
 generalize x % p = xr at *
 generalize y % p = yr at *
 have hpp0 : 0 < pp := by
  refine Int.lt_of_not_ge fun h => ?_
  have : p * pp ≤ p * 0 := Int.mul_le_mul_of_nonneg_left h (by omega)
  omega
 have qx1 : xq < pp := by
  refine lt_of_mul (c := p) ?_ hp
  rw [Int.mul_comm pp p]
  omega
 have e1 : (y * 4294967296 + x) / p = y * pp + xq := by
  rw [show y * 4294967296 + x = xr + p * (y * pp + xq) by rw [← ex, ← hpp]; grind, Int.add_mul_ediv_left _ _ (by omega), Int.ediv_eq_zero_of_lt rx0 rx1]
  omega
 have b0 : 0 ≤ yr * pp + xq := by
  have := Int.mul_nonneg ry0 (Int.le_of_lt hpp0)
  omega
 have b1 : yr * pp + xq < 4294967296 := by
  have : (yr + 1) * pp ≤ p * pp := Int.mul_le_mul_of_nonneg_right (by omega) (by omega)
  rw [Int.add_mul] at this
  omega
 have e2 : y * pp + xq = yr * pp + xq + 4294967296 * yq := by rw [← ey, ← hpp]; grind
 rw [e1, e2, Int.add_mul_emod_self_left, Int.emod_eq_of_lt b0 b1, ← hpp, ← ex]
 grind
structure DnI (U : List Int) (p : Int) (n i : Nat) (rem : List Int) : Prop where
 dg : Dg 4294967296 rem
 len : rem.length = n + 2
 val : dv 4294967296 (rem.take i) * p + U.getD 0 0 % p = dv 4294967296 (U.take i) + U.getD i 0 % p * pw 4294967296 i
theorem DnI.start (U : List Int) (p : Int) (n : Nat) : DnI U p n 0 (List.replicate (n + 2) 0) :=
 ⟨Dg.replicate (by decide) _, by simp, by simp [dv, pw]⟩
theorem DnI.step {U rem : List Int} {p pp : Int} {n i : Nat} (h : DnI U p n i rem) (dU : Dg 4294967296 U) (hp : 0 < p) (hpp : p * pp = 4294967296) (hi : i < n + 2) :
  DnI U p n (i + 1) (rem.set i ((U.getD (i + 1) 0 * 4294967296 + U.getD i 0) / p % 4294967296)) := by
 have a0 := dU.getD (by decide) i
 have a1 := dU.getD (by decide) (i + 1)
 have e := dn_num hp hpp a0.1 a0.2 a1.1
 refine ⟨h.dg.set _ (Int.emod_nonneg _ (by decide)) (Int.emod_lt_of_pos _ (by decide)), by simpa using h.len, ?_⟩
 have hv := h.val
 rw [dv_take_set (by have := h.len; omega), dv_take_succ', pw_succ]
 generalize (U.getD (i + 1) 0 * 4294967296 + U.getD i 0) / p % 4294967296 = s at *
 have h2 := Int.ediv_mul_add_emod (U.getD i 0) p
 generalize U.getD i 0 % p = ui at *
 generalize U.getD (i + 1) 0 % p = uj at *
 generalize U.getD i 0 = u at *
 generalize U.getD 0 0 % p = u0 at *
 grind
end Go.Proofs.YtekommcfpjonmaaGreat.Db
namespace Go.Proofs.YtekommcfpjonmaaGreat.Dc
open RowKit Go YtekommcfpjonmaaGreatW.PrintWords YtekommcfpjonmaaGreatW.PrintLast YtekommcfpjonmaaGreatW.PrintMore Ml Mn Nd Z P Nc Nb Ns Nk Ng Lz Da Db
structure Tri (w W : World) (gu N cu : Nat) (U : List Int) (gv n cv : Nat) (V : List Int) (go m co : Nat) (Q : List Int) : Prop where
 u : Kd.R (Kd.int .u32) 157 W 0 (fun _ => True) (.slice (some ⟨gu, 0, none⟩) N cu) U
 v : Kd.R (Kd.int .u32) 157 W 0 (fun _ => True) (.slice (some ⟨gv, 0, none⟩) n cv) V
 q : Kd.R (Kd.int .u32) 157 W 0 (fun _ => True) (.slice (some ⟨go, 0, none⟩) m co) Q
 b : Below w.heap.size w W
theorem far_put {e g n c g2 i : Nat} {xs : List Int} {W : World} {x : Value} (h : Kd.R (Kd.int .u32) e W 0 (fun _ => True) (.slice (some ⟨g, 0, none⟩) n c) xs) (hne : g ≠ g2) : Kd.R (Kd.int .u32) e (W.setCell ⟨g2, i, none⟩ x) 0 (fun _ => True) (.slice (some ⟨g, 0, none⟩) n c) xs := by
 refine Kd.R_mono (ok := fun k => k = g) (Kd.R_far (p := ⟨g2, i, none⟩) (Kd.R_mono (Kd.R_tight rfl h) (fun k hk => ?_)) (fun k hk => ?_) _) (fun _ _ => trivial)
 ·simpa [Value.ownBlock] using hk
 rw [hk]; exact hne
theorem Tri.put {w W : World} {gu N cu gv n cv go m co : Nat} {U V Q : List Int} (h : Tri w W gu N cu U gv n cv V go m co Q) (h1 : gu ≠ go) (h2 : gv ≠ go) (h3 : w.heap.size ≤ go) (i : Nat) (x : Int) : Tri w (W.setCell ⟨go, i, none⟩ (.int .u32 x)) gu N cu U gv n cv V go m co (Q.set i x) :=
 ⟨far_put h.u h1, far_put h.v h2, own_put h.q i x, h.b.setCell h3 _⟩
theorem Tri.drewN {w W : World} {gu N cu gv n cv go m co : Nat} {U V Q : List Int} (h : Tri w W gu N cu U gv n cv V go m co Q) (k : Nat) : Tri w (W.drewN k) gu N cu U gv n cv V go m co Q :=
 ⟨Kd.R_drewN h.u k, Kd.R_drewN h.v k, Kd.R_drewN h.q k, pw_below_drewN h.b k⟩
theorem Tri.two {w W : World} {gu N cu gv n cv go m co : Nat} {U V Q P Z Y : List Int} (h : Tri w W gu N cu U gv n cv V go m co Q) (e : U = P ++ (Y ++ Z)) : Two W W gu gv N cu n cv P Z Y V :=
 ⟨by rw [← e]; exact h.u, h.v, grown_of_below (Below.refl _ _) _⟩
theorem Tri.dug {w W W2 : World} {gu N cu gv n cv go m co : Nat} {U V Q P Z Y : List Int} (h : Tri w W gu N cu U gv n cv V go m co Q) (h2 : Two W W2 gu gv N cu n cv P Z Y V) (h1 : go ≠ gu) (h3 : w.heap.size ≤ gu) : Tri w W2 gu N cu (P ++ (Y ++ Z)) gv n cv V go m co Q :=
 ⟨h2.u, h2.v, Kd.R_grown2 h.q rfl h2.g (by intro k hk; simp at hk; subst hk; simp [Value.ownBlock]; exact fun h => h1 h.symm), pw_below_grown h.b _ h.b.size h2.g (by intro k hk; simp at hk; subst hk; exact h3)⟩
theorem Tri.cells {w W : World} {gu N cu gv n cv go m co : Nat} {U V Q : List Int} (h : Tri w W gu N cu U gv n cv V go m co Q) (i : Nat) (hi : i < N) : W.cell? ⟨gu, i, none⟩ = some (.int .u32 (U.getD i 0)) := (own_cell h.u i hi).1
theorem Tri.qcell {w W : World} {gu N cu gv n cv go m co : Nat} {U V Q : List Int} (h : Tri w W gu N cu U gv n cv V go m co Q) (i : Nat) (hi : i < m) : W.cell? ⟨go, i, none⟩ = some (.int .u32 (Q.getD i 0)) ∧ W.frozen? ⟨go, i, none⟩ = false := own_cell h.q i hi
theorem w64n (i : Nat) (h : i < 1000000) : wrap64 ((i : Int) + 1) = (i : Int) + 1 := w64 (by omega) (by omega)
theorem u64k {x : Int} (h0 : 0 ≤ x) (h1 : x < 4294967296) : IntKind.u64.wrap (x * 4294967296) = x * 4294967296 := u64 (by omega) (by omega)
theorem u32m (x : Int) : IntKind.u32.wrap x = x % 4294967296 := rfl
theorem div_end {ul V U Q R : List Int} {n : Nat} {p pp A B : Int} (h : LdI ul V n 0 U Q) (d : DnI U p n (n + 2) R) (hp : 0 < p) (hpp : p * pp = 4294967296) (hV : V.length = n + 2) (dV : Dg 4294967296 V) (hU : n + 2 < U.length) (eV : dv 4294967296 V = B * p) (eU : dv 4294967296 ul = A * p) : A = dv 4294967296 Q * B + dv 4294967296 R ∧ dv 4294967296 R < B := by
 have h1 := dv_split 4294967296 U (n + 2) (by omega)
 have h2 := h.top
 rw [List.drop_zero] at h2
 have h3 := dv_lt (by decide) dV
 rw [hV] at h3
 have h4 := dv_nonneg (by decide) (h.dU.take (n + 2))
 have h5 := dv_nonneg (by decide) (h.dU.drop (n + 2))
 have hM := pow_pos (B := 4294967296) (by decide) (n + 2)
 have z : dv 4294967296 (U.drop (n + 2)) = 0 := by
  refine Int.le_antisymm (Int.le_of_not_gt fun h6 => ?_) h5
  have h7 : pw 4294967296 (n + 2) * 1 ≤ pw 4294967296 (n + 2) * dv 4294967296 (U.drop (n + 2)) := Int.mul_le_mul_of_nonneg_left (by omega) (by omega)
  omega
 have z2 : U.getD (n + 2) 0 = 0 := by
  have := dv_drop 4294967296 U (n + 2) hU
  have h6 := h.dU.getD (by decide) (n + 2)
  have h7 := dv_nonneg (by decide) (h.dU.drop (n + 2 + 1))
  omega
 have e0 := dv_drop 4294967296 U 0 (by omega)
 rw [List.drop_zero] at e0
 have hv := h.val
 rw [List.drop_zero] at hv
 have hd := d.val
 rw [List.take_of_length_le (by rw [d.len]; exact Nat.le_refl _), z2, Int.zero_emod, Int.zero_mul, Int.add_zero] at hd
 rw [z, Int.mul_zero, Int.add_zero] at h1
 rw [← h1] at hd
 simp only [pw, Int.mul_one] at hv
 generalize dv 4294967296 (U.drop (0 + 1)) = t at *
 have m0 : U.getD 0 0 % p = 0 := by
  have : U.getD 0 0 = p * (A - dv 4294967296 Q * B - pp * t) := by grind
  rw [this]
  exact Int.mul_emod_right _ _
 rw [m0] at hd
 have e1 : (A - dv 4294967296 Q * B - dv 4294967296 R) * p = 0 := by grind
 have e2 : A - dv 4294967296 Q * B - dv 4294967296 R = 0 := by
  rcases Int.mul_eq_zero.1 e1 with h | h
  ·exact h
  omega
 refine ⟨by omega, lt_of_mul (c := p) ?_ hp⟩
 omega
theorem divMag_c (A0 : Option Addr) (c0 : Nat) (la : List Int) (A1 : Option Addr) (c1 n : Nat) (lb : List Int) (w : World) (h0 : la.length ≤ c0) (r0 : Kd.C (Kd.int .u32) w A0 la.length la) (h1 : n + 2 ≤ c1) (r1 : Kd.C (Kd.int .u32) w A1 lb.length lb) (hl : lb.length = n + 2) (ha : Cn 4294967296 la) (hb : Cn 4294967296 lb) (hn : la.length ≤ 1000) (hm : n ≤ 1000) (hle : dv 4294967296 lb ≤ dv 4294967296 la) :
  Calls Tryz.prog 159 #[.slice A0 la.length c0, .slice A1 (n + 2) c1] w (DivP w la lb) := by
 have hll : n + 2 ≤ la.length := by
  rw [← hl]
  refine Nat.le_of_not_lt fun h => ?_
  have := dv_len (by decide) ha.dg hb h
  omega
 have ht0 := hb.dg.getD (by decide) (n + 1)
 have ht1 := top_getD hb.top (by omega)
 rw [hl, show n + 2 - 1 = n + 1 by omega] at ht1
 obtain ⟨b, hb31, hlz, hz1, hz2⟩ := lz_num (lb.getD (n + 1) 0) (by omega) ht0.2
 rw [hl] at r1
 obtain ⟨adb, eb, hbc⟩ := mag_cell r1 (Below.refl _ _) (n + 1) (by omega)
 cases eb
 generalize hT : lb.getD (n + 1) 0 = top at hbc ht0 hlz
 have hn1 : decide ((n : Int) + 2 = 1) = false := by apply decide_eq_false; omega
 have hn2 : ((n : Int) + 2 == 1) = false := by apply beq_eq_false_iff_ne.2; omega
 have ht2 : ((n : Int) + 2).toNat = n + 2 := by omega
 have hmx : max ((n : Int) + 2) 0 = (n : Int) + 2 := by omega
 have HR := aS (And.intro r0 r1)
 have HTP := aS hT
 have HC := aS (And.intro ha hb)
 have HL := aS (And.intro hle hl)
 have HZ := aS (And.intro hlz (And.intro hz1 hz2))
 obtain ⟨ht0a, ht0b⟩ := ht0
 clear r0 r1 ha hb hle hz1 hz2 hlz hl ht1 hT
 obtain ⟨s, hs⟩ : ∃ s, la.length = n + 2 + s := ⟨la.length - (n + 2), by omega⟩
 have hsi : (la.length : Int) - ((n : Int) + 2) = (s : Int) := by omega
 have HSS := aS hs
 clear hs
 go_enter Tryz.func159, Tryz.ntmps159
 go_wp2_with fail
 have hcm := cmpMag_n A0 c0 la (some adb) c1 lb w h0 HR.out.1 (by rw [HL.out.2]; exact h1) (by rw [HL.out.2]; exact HR.out.2) HC.out.1 HC.out.2 (by omega) (by rw [HL.out.2]; omega)
 rw [HL.out.2] at hcm
 refine hcm.mono ?_
 clear hcm
 rintro e w1 ⟨c, rfl, hs, hb1⟩
 have hc : 0 ≤ c := by have := HL.out.1; unfold Sg at hs; omega
 have HB1 := aS hb1
 have hbc1 : w1.cell? (adb.add (n + 1)) = some (.int .u32 top) := pw_cell_below hb1 hbc
 have hbc2 : w1.cell? { block := adb.block, off := adb.off + (n + 1) } = some (.int .u32 top) := hbc1
 clear hs hb1
 go_wp2_with fail
 refine (bits_LeadingZeros32 top w1 ht0a (by omega)).mono ?_
 rintro e w2 ⟨rfl, rfl⟩
 rw [HZ.out.1]
 go_wp2_with fail
 refine start_ (n := 11) (S := fun w' => True) (ds := []) (bs 11 0) (by kernel_rfl) rfl rfl trivial (fun hHeld => ?_)
 refine zP 0 68 11 1 ?_
 refine zP 1 69 11 3 ?_
 refine zP 3 71 11 11 ?_
 refine zP 4 72 11 27 ?_
 refine zP 6 74 11 91 ?_
 refine zP 7 75 11 219 ?_
 refine zN 2 (some 70) 11 223 (fun K hK => ?_)
 refine zG Tryz.func153 #[.slice A0 la.length c0, .int .i64 (b : Int)] ?_
 with_reducible refine (shift_n A0 c0 la b _ h0 (Kd.C_drew (Kd.C_below HR.out.1 HB1.out)) HC.out.1.dg (by omega) hb31).mono ?_
 rintro e w3 ⟨gu, cu, ul, hgu, rfl, hRu, dU, lU, vU, tU, hb3⟩
 refine ⟨_, rfl, ?_⟩
 refine hK.out _ _ trivial (fun hHeld => ?_)
 clear hK K
 refine zM 70 ?_
 refine zN 5 (some 73) 11 255 (fun K hK => ?_)
 refine zG Tryz.func153 #[.slice (some adb) (n + 2) c1, .int .i64 (b : Int)] ?_
 with_reducible refine (shift_m (some adb) c1 lb (n + 2) HL.out.2 b _ h1 (Kd.C_below HR.out.2 (HB1.out.trans ((below_drew' hb3).mono HB1.out.size))) HC.out.2.dg (by omega) hb31).mono ?_
 rintro e w4 ⟨gv, cv, vl, hgv, rfl, hRv, dV, lV, vV, tV, hb4⟩
 refine ⟨_, rfl, ?_⟩
 have hcv : (n : Int) + 2 ≤ (cv : Int) := by have := (Kd.R_reads' hRv).2.1; omega
 have hn3 : 0 ≤ (n : Int) + 2 := by omega
 refine hK.out _ _ trivial (fun hHeld => ?_)
 clear hK K
 refine zM 73 ?_
 refine zP 8 76 11 511 ?_
 refine zP 9 9 11 1023 ?_
 refine zP 10 10 11 2047 ?_
 refine done_ (by kernel_rfl) ?_
 have hsz : 0 ≤ (s : Int) + 1 := by omega
 have HU := aS (And.intro hRu (And.intro dU (And.intro lU (And.intro vU tU))))
 have HV := aS (And.intro hRv (And.intro dV (And.intro lV (And.intro vV tV))))
 have HB4 := aS (And.intro hb3 hb4)
 clear hRu dU lU vU tU hRv dV lV vV tV hb3 hb4
 go_wp2_with ((with_reducible refine gate_dst (N := 84) rfl ?_); refine Kd.R_make (Kd.int .u32) _ 157 rfl (N := 84) rfl 117 _ _ rfl ((s : Int) + 1) rfl rfl Tryz.underlying117 (.int .u32 0) 4 info157 rfl (by decide) (by omega) 0 (ok := fun _ => True) (okp := fun _ => True) rfl (fun _ hk => hk) trivial hsz (by omega) (Below.refl _ _) (Nat.le_refl _) ?_; intro v w5 ho hb hg_ hnew_; clear hg_ hnew_; have HO := aS ho; have HB := aS hb; clear ho hb)
 obtain ⟨go, co, eo, gb, _, _⟩ := Kd.R_form HO.out (by simp)
 have eo2 : v = .slice (some ⟨go, 0, none⟩) (s + 1) co := by rw [eo]; simp
 have HO2 : Kd.R (Kd.int .u32) 157 w5 0 (fun _ => True) (.slice (some ⟨go, 0, none⟩) (s + 1) co) (List.replicate (s + 1) 0) := by have := Kd.R_lower HO.out (Nat.zero_le _); rw [eo2] at this; simpa using this
 have hgo : go ≠ gu ∧ go ≠ gv ∧ gu ≠ gv ∧ w.heap.size ≤ gu ∧ w.heap.size ≤ gv ∧ w.heap.size ≤ go := by
  have a1 := Kd.R_lt HU.out.1 gu rfl
  have a2 := Kd.R_lt HV.out.1 gv rfl
  have a3 := HB1.out.size
  have a4 : w2.heap.size ≤ gu := hgu
  have a5 := HB4.out.2.size
  have a6 : w4.heap.size ≤ go := gb
  omega
 obtain ⟨n1, n2, n3, n4, n5, n6⟩ := hgo
 have HT := aS (show Tri w w5 gu (la.length + 1) cu ul gv (n + 2) cv (vl.take (n + 2)) go (s + 1) co (List.replicate (s + 1) 0) from
  ⟨Kd.R_below (Kd.R_below (Kd.R_lower HU.out.1 (Nat.zero_le _)) HB4.out.2) HB.out, Kd.R_below (Kd.R_take (Kd.R_lower HV.out.1 (Nat.zero_le _)) (by rw [HV.out.2.2.1]; omega)) HB.out, HO2,
     HB1.out.trans ((below_drew' HB4.out.1).mono HB1.out.size |>.trans ((HB4.out.2.mono (by have a1 := HB1.out.size; have a2 : w2.heap.size ≤ w3.heap.size := HB4.out.1.size; omega)).trans (HB.out.mono (by have a1 := HB1.out.size; have a2 : w2.heap.size ≤ w3.heap.size := HB4.out.1.size; have a3 := HB4.out.2.size; omega))))⟩)
 have hcu : la.length + 1 ≤ cu := (Kd.R_reads' HU.out.1).2.1
 have hp31 : (2 : Int) ^ b ≤ 2147483648 := by
  have : b = 0 ∨ b = 1 ∨ b = 2 ∨ b = 3 ∨ b = 4 ∨ b = 5 ∨ b = 6 ∨ b = 7 ∨ b = 8 ∨ b = 9 ∨ b = 10 ∨ b = 11 ∨ b = 12 ∨ b = 13 ∨ b = 14 ∨ b = 15 ∨ b = 16 ∨ b = 17 ∨ b = 18 ∨ b = 19 ∨ b = 20 ∨ b = 21 ∨ b = 22 ∨ b = 23 ∨ b = 24 ∨ b = 25 ∨ b = 26 ∨ b = 27 ∨ b = 28 ∨ b = 29 ∨ b = 30 ∨ b = 31 := by omega
  rcases this with h | h | h | h | h | h | h | h | h | h | h | h | h | h | h | h | h | h | h | h | h | h | h | h | h | h | h | h | h | h | h | h <;> subst h <;> decide
 have hnv := norm_v lb vl n (2 ^ b) (Int.pow_pos (by decide)) HC.out.2 HL.out.2 HV.out.2.1 HV.out.2.2.1 HV.out.2.2.2.1 HZ.out.2.1 HZ.out.2.2
 have HVD := aS (And.intro (HV.out.2.1.take (n + 2)) hnv)
 have hLV : (vl.take (n + 2)).length = n + 2 := by rw [List.length_take, HV.out.2.2.1]; omega
 have hLI := LdI.start ul (vl.take (n + 2)) n HU.out.2.1 (by rw [HU.out.2.2.1]; omega) hLV HVD.out.1 (by rw [HU.out.2.2.1, Nat.add_sub_cancel]; have := HVD.out.2.2; have := HU.out.2.2.2.2; omega)
 rw [show ul.length - n - 2 = s + 1 by rw [HU.out.2.2.1, HSS.out]; omega] at hLI
 have HLI := aS hLI
 have HX := aS (And.intro hcu (And.intro hp31 hLV))
 subst eo2
 clear HO eo HB gb HO2 hcu hp31 hnv hLI hLV hgu hgv HB4 HB1
 go_loopg [12] (s + 1) (fun kq v12 w' => ∃ (z : Int) (U Q : List Int), v12 = .int .i64 z ∧ Aside0 (z = (kq : Int) - 1 ∧ kq ≤ s + 1) ∧ Aside0 (LdI ul (vl.take (n + 2)) n kq U Q) ∧ Aside0 (Tri w w' gu (la.length + 1) cu U gv (n + 2) cv (vl.take (n + 2)) go (s + 1) co Q))
 case atStart => exact ⟨_, _, _, rfl, ⟨by omega⟩, HLI, HT⟩
 case round =>
  clear HLI HT
  obtain ⟨z, U, Q, rfl, HK, HLI, HT⟩ := hrel
  cases gk with
  | zero =>
   obtain rfl : z = -1 := by have := HK.out.1; omega
   have hb9 : decide ((0 : Int) ≤ -1) = false := by decide
   have hn0 : 0 ≤ (n : Int) + 2 := by omega
   go_wp2_with ((with_reducible refine gate_dst (N := 106) rfl ?_); refine Kd.R_make (Kd.int .u32) _ 157 rfl (N := 106) rfl 117 _ _ rfl ((n : Int) + 2) rfl rfl Tryz.underlying117 (.int .u32 0) 4 info157 rfl (by decide) (by omega) 0 (ok := fun _ => True) (okp := fun _ => True) rfl (fun _ hk => hk) trivial hn0 (by omega) (Below.refl _ _) (Nat.le_refl _) ?_; intro v w5 ho hb hg_ hnew_; clear hg_ hnew_; have HO := aS ho; have HB := aS hb; clear ho hb)
   obtain ⟨gr, cr, eo, gb, _, _⟩ := Kd.R_form HO.out (by simp; omega)
   have eo2 : v = .slice (some ⟨gr, 0, none⟩) (n + 2) cr := by rw [eo]; simp; omega
   have HT2 := aS (show Tri w w5 gu (la.length + 1) cu U go (s + 1) co Q gr (n + 2) cr (List.replicate (n + 2) 0) from
    ⟨Kd.R_below HT.out.u HB.out, Kd.R_below HT.out.q HB.out, by have := Kd.R_lower HO.out (Nat.zero_le _); rw [eo2] at this; rw [show ((n : Int) + 2).toNat = n + 2 by omega] at this; exact this, HT.out.b.trans (HB.out.mono HT.out.b.size)⟩)
   have hgr : gr ≠ gu ∧ gr ≠ go ∧ w.heap.size ≤ gr := by
    have a1 := Kd.R_lt HT.out.u gu rfl
    have a2 := Kd.R_lt HT.out.q go rfl
    have a3 := HT.out.b.size
    have a4 : wr.heap.size ≤ gr := gb
    omega
   obtain ⟨m1, m2, m3⟩ := hgr
   have HD0 := aS (DnI.start U (2 ^ b) n)
   subst eo2
   clear HO eo HB gb HT
   go_loopg [108] (n + 2) (fun kq v108 w' => ∃ (i : Nat) (R : List Int), v108 = .int .i64 (i : Int) ∧ Aside0 (i + kq = n + 2) ∧ Aside0 (DnI U (2 ^ b) n i R) ∧ Aside0 (Tri w w' gu (la.length + 1) cu U go (s + 1) co Q gr (n + 2) cr R))
   case atStart => exact ⟨0, _, rfl, ⟨by omega⟩, HD0, HT2⟩
   case round =>
    clear HD0 HT2
    obtain ⟨i, R, rfl, HK2, HD, HT⟩ := hrel
    cases gk with
    | zero =>
     have hi : i = n + 2 := HK2.out
     have hb0 : decide ((i : Int) < (n : Int) + 2) = false := decide_eq_false (by omega)
     have HI2 := aS hi
     clear hi
     go_wp2_with fail
     refine (trim_n _ Q _ _ _ HT.out.v HLI.out.dq (by rw [HLI.out.lq, HU.out.2.2.1]; omega)).mono ?_
     rintro e w6 ⟨v0, q, rfl, hM0, hc0, hv0, hl0, hb0⟩
     have HQ := aS (And.intro hM0 (And.intro hc0 (And.intro hv0 (And.intro hl0 hb0))))
     clear hM0 hc0 hv0 hl0 hb0
     go_wp2_with fail
     refine (trim_n _ R _ _ _ (Kd.R_below HT.out.q HQ.out.2.2.2.2) HD.out.dg (by rw [HD.out.len]; omega)).mono ?_
     rintro e w7 ⟨v1, r, rfl, hM1, hc1, hv1, hl1, hb1⟩
     have HR1 := aS (And.intro hM1 (And.intro hc1 (And.intro hv1 (And.intro hl1 hb1))))
     clear hM1 hc1 hv1 hl1 hb1
     go_wp2_with fail
     go_ret2
     obtain ⟨hM0, hc0, hv0, hl0, hb0⟩ := HQ.out
     obtain ⟨hM1, hc1, hv1, hl1, hb1⟩ := HR1.out
     have hE := div_end (pp := 2 ^ (32 - b)) HLI.out (HI2.out ▸ HD.out) (Int.pow_pos (by decide)) (by rw [← Int.pow_add, show b + (32 - b) = 32 by omega]; decide) HX.out.2.2 HVD.out.1 (by rw [HLI.out.lU, HU.out.2.2.1]; omega) HVD.out.2.1 HU.out.2.2.2.1
     refine ⟨_, _, q, r, rfl, hM0.below hb1, hM1, hc0, hc1, ?_, ?_, ?_, ?_, HT.out.b.trans ((hb0.mono HT.out.b.size).trans (hb1.mono (HT.out.b.trans (hb0.mono HT.out.b.size)).size))⟩
     ·have := HLI.out.lq
      rw [HU.out.2.2.1] at this
      omega
     ·have := HD.out.len
      have := HL.out.2
      omega
     ·rw [hv0, hv1]; exact hE.1
     rw [hv1]; exact hE.2
    | succ k2 =>
     have hi : i < n + 2 := by have := HK2.out; omega
     have hi1000 : i < 1000000 := by omega
     have hb0 : decide ((i : Int) < (n : Int) + 2) = true := decide_eq_true (by omega)
     have hbn : 0 ≤ (b : Int) := by omega
     have hw2 : ((i : Int) + 1).toNat = i + 1 := by omega
     have hw3 : 0 ≤ (i : Int) + 1 := by omega
     have hw4 : (i : Int) + 1 < (la.length : Int) + 1 := by omega
     have hw5 : (i : Int) < (la.length : Int) + 1 := by omega
     have hw6 : (i : Int) < (n : Int) + 2 := by omega
     have hc0 := HT.out.cells i (by omega)
     have hc1 := HT.out.cells (i + 1) (by omega)
     obtain ⟨hy1, hz1⟩ := HT.out.qcell i hi
     have hst := HD.out.step (pp := 2 ^ (32 - b)) HLI.out.dU (Int.pow_pos (by decide)) (by rw [← Int.pow_add, show b + (32 - b) = 32 by omega]; decide) hi
     have hu0 := HLI.out.dU.getD (by decide) i
     have hu1 := HLI.out.dU.getD (by decide) (i + 1)
     generalize U.getD i 0 = u0 at hc0 hst hu0
     generalize U.getD (i + 1) 0 = u1 at hc1 hst hu1
     obtain ⟨hu00, hu01⟩ := hu0
     obtain ⟨hu10, hu11⟩ := hu1
     have hor : bits BinOp.or IntKind.u64 (u1 * 4294967296) u0 = u1 * 4294967296 + u0 := or_high _ _ 32 (by omega) (by omega) (by omega) hu00 (by omega) (by omega)
     have hv1 : IntKind.u64.wrap u1 = u1 := u64 hu10 (Int.lt_trans hu11 (by decide))
     have hv2 : IntKind.u64.wrap (u1 * 4294967296) = u1 * 4294967296 := u64k hu10 hu11
     have hv3 : IntKind.u64.wrap u0 = u0 := u64 hu00 (Int.lt_trans hu01 (by decide))
     have hw1 : wrap64 ((i : Int) + 1) = (i : Int) + 1 := w64n i hi1000
     rw [← u32m] at hst
     have HST := aS hst
     clear hst
     go_wp2_with fail
     refine start_ (n := 20) (S := fun w' => w'.cell? ⟨gu, i, none⟩ = some (.int .u32 u0) ∧ w'.cell? ⟨gu, i + 1, none⟩ = some (.int .u32 u1) ∧ w'.cell? ⟨gr, i, none⟩ = some (.int .u32 (R.getD i 0)) ∧ w'.frozen? ⟨gr, i, none⟩ = false) (ds := [19]) (bs 20 0) (by kernel_rfl) rfl rfl ⟨hc0, hc1, hy1, hz1⟩ (fun hHeld => ?_)
     refine zP 0 111 20 1 ?_
     refine zP 1 112 20 3 ?_
     refine zP 2 113 20 7 ?_
     refine zP 3 114 20 15 ?_
     refine zP 4 115 20 31 ?_
     refine zP 5 116 20 63 ?_
     refine zP 9 120 20 575 ?_
     refine zP 10 121 20 1599 ?_
     refine zP 11 122 20 3647 ?_
     refine zP 15 126 20 36415 ?_
     refine zT 6 117 20 36479 hHeld ?_
     refine zP 7 118 20 36607 ?_
     refine zP 8 119 20 36863 ?_
     refine zT 12 123 20 40959 hHeld ?_
     refine zP 13 124 20 49151 ?_
     refine zP 14 125 20 65535 ?_
     refine zP 16 127 20 131071 ?_
     refine zP 17 128 20 262143 ?_
     refine zP 18 129 20 524287 ?_
     refine zL 19 none 20 1048575 (fun K hK => ?_)
     refine skip_ (w1 := ?_) (by rfl) rfl ?_ ?_
     rotate_left
     ·(go_simp; with_reducible rfl)
     refine hK.out _ _ ?_
     clear hK K
     refine done_ (by kernel_rfl) ?_
     have HT9 := aS ((HT.out.put m1.symm m2.symm m3 i (IntKind.u32.wrap ((u1 * 4294967296 + u0) / 2 ^ b))).drewN 1)
     generalize hW : World.drew _ = WW
     have HT10 := aS (show Tri w WW gu (la.length + 1) cu U go (s + 1) co Q gr (n + 2) cr (R.set i (IntKind.u32.wrap ((u1 * 4294967296 + u0) / 2 ^ b))) from by rw [← hW]; exact HT9.out)
     have HK3 := aS (And.intro HK2.out HST.out)
     clear hW HT9 HT hor hv1 hv2 hv3 hw1 HST hc0 hc1 hy1 hz1 hw2 hw3 hw4 hw5 hu00 hu01 hu10 hu11
     go_wp2_with fail
     go_roundg k2
     case measure => omega
     case rel =>
      exact ⟨i + 1, _, by simp, ⟨by have := HK3.out.1; omega⟩, ⟨HK3.out.2⟩, HT10⟩
  | succ k1 =>
   obtain rfl : z = (k1 : Int) := by have := HK.out.1; omega
   have hk : k1 < s + 1 := by have := HK.out.2; omega
   have hcut : (k1 : Int) + ((n : Int) + 2) + 1 ≤ (cu : Int) := by have := HX.out.1; have := HSS.out; omega
   have hcut0 : 0 ≤ (k1 : Int) + ((n : Int) + 2) + 1 := by omega
   have hcut1 : k1 ≤ k1 + (n + 2) + 1 := by omega
   obtain ⟨w1, w2', w3', w4', w5', w6'⟩ := HLI.out.win HX.out.2.2 HVD.out.1 (by rw [HU.out.2.2.1, HSS.out]; omega)
   have hdg := digit_n wr wr gu gv (la.length + 1) cu cv n (cu - k1) (U.take k1) (U.drop (k1 + (n + 3))) ((U.drop k1).take (n + 3)) (vl.take (n + 2)) (fun h => n3 h.symm) (HT.out.two w1) HX.out.2.2 w3' HVD.out.1 w4' HVD.out.2.2 w6' (by omega) (by omega)
   rw [w2'] at hdg
   have HDG := aS hdg
   obtain ⟨hy1, hz1⟩ := HT.out.qcell k1 hk
   clear w1 w2' w3' w4' w5' w6' hdg
   go_wp2_with fail
   rw [show k1 + (n + 2) + 1 - k1 = n + 3 by omega]
   refine HDG.out.mono ?_
   rintro e w6 ⟨q, Y', rfl, hTw, lY, dY, hq0, hq1, hqv, hqlt⟩
   have HT6 := aS (HT.out.dug hTw n1 n4)
   have hst := HLI.out.step HX.out.2.2 HVD.out.1 (by rw [HU.out.2.2.1, HSS.out]; omega) lY dY hq0 hq1 hqv hqlt
   have HST := aS hst
   obtain ⟨hy6, hz6⟩ := HT6.out.qcell k1 hk
   clear hTw lY dY hqv hqlt hst hy1 hz1 HDG
   go_wp2_with fail
   go_roundg k1
   case measure => omega
   case rel => exact ⟨_, _, _, rfl, ⟨by have := HK.out; omega⟩, HST, ⟨HT6.out.put (fun h => n1 h.symm) (fun h => n2 h.symm) n6 k1 _⟩⟩
end Go.Proofs.YtekommcfpjonmaaGreat.Dc
namespace Go.Proofs.YtekommcfpjonmaaGreat.Qa
open RowKit Go YtekommcfpjonmaaGreatW.PrintWords YtekommcfpjonmaaGreatW.PrintLast YtekommcfpjonmaaGreatW.PrintMore Ml Mn Nd Z P Nc Na Nb Ns Da Dc
attribute [local go_sem] max2_int min2_int max_two min_two
theorem divMag_n (A0 : Option Addr) (c0 : Nat) (la : List Int) (A1 : Option Addr) (c1 : Nat) (lb : List Int) (w : World) (h0 : la.length ≤ c0) (r0 : Kd.C (Kd.int .u32) w A0 la.length la) (h1 : lb.length ≤ c1) (r1 : Kd.C (Kd.int .u32) w A1 lb.length lb) (ha : Cn 4294967296 la) (hb : Cn 4294967296 lb) (hp : lb ≠ []) (hn : la.length ≤ 1000) (hm : lb.length ≤ 1000) :
  Calls Tryz.prog 159 #[.slice A0 la.length c0, .slice A1 lb.length c1] w (DivP w la lb) := by
 by_cases hlt : dv 4294967296 la < dv 4294967296 lb
 ·exact divMag_a A0 c0 la A1 c1 lb w h0 r0 h1 r1 ha hb hn hm hlt
 rcases lb with _ | ⟨x, _ | ⟨y, t⟩⟩
 ·exact absurd rfl hp
 ·exact divMag_b A0 c0 la A1 c1 x w h0 r0 h1 r1 ha hb hn (by omega)
 exact divMag_c A0 c0 la A1 c1 t.length (x :: y :: t) w h0 r0 (by simpa using h1) r1 (by simp) ha hb hn (by simp at hm; omega) (by omega)
theorem subI_n (gx ox ga oa gb ob : Nat) (a b : Int) (na nb : Nat) (w : World) (hx : Room w gx ox) (ha : IsN w ga oa a na) (hb : IsN w gb ob b nb) (hl : na + nb ≤ 1000) :
  Calls Tryz.prog 124 #[.pointer (some ⟨gx, ox, none⟩), .pointer (some ⟨ga, oa, none⟩), .pointer (some ⟨gb, ob, none⟩)] w (SetP w gx ox (a - b) (max na nb + 1)) := by
 obtain ⟨negb, Ab, ccb, lb, sb, hcb, rb, cb, hlb, hzb, qb⟩ := hb.open
 have b0 := sb.cell0
 have b1 := sb.cell1
 have hBa : Below w.heap.size w (w.drew.alloc (.cells #[.bool (!negb), .slice Ab lb.length ccb] 119)) := below_alloc (below_drew' (Below.refl _ w.drew)) _
 have HNB := aS (show IsW (w.drew.alloc (.cells #[.bool (!negb), .slice Ab lb.length ccb] 119)) w.drew.heap.size 0 (-b) nb from
  ⟨!negb, Ab, ccb, lb, ⟨_, 119, blk_new w.drew _, ⟨Ab, lb.length, ccb, rfl⟩, rfl, rfl⟩, hcb, Kd.C_below rb hBa, cb, hlb, by rw [hzb]; cases negb <;> simp [sg]⟩)
 go_enter Tryz.func124, Tryz.ntmps124
 go_wp2_with fail
 refine start_ (n := 15) (S := fun w' => w'.cell? ⟨gb, ob, none⟩ = some (.bool negb) ∧ w'.cell? ⟨gb, ob + 1, none⟩ = some (.slice Ab lb.length ccb)) (ds := [13]) (bs 15 0) (by kernel_rfl) rfl rfl ⟨b0, b1⟩ (fun hHeld => ?_)
 refine zP 0 7 15 1 ?_
 refine zP 1 8 15 3 ?_
 refine zP 2 9 15 7 ?_
 refine zP 3 10 15 15 ?_
 refine zP 4 11 15 31 ?_
 refine zP 7 14 15 159 ?_
 refine zP 8 15 15 415 ?_
 refine zP 9 16 15 927 ?_
 refine zT 5 12 15 959 hHeld ?_
 refine zP 6 13 15 1023 ?_
 refine zT 10 17 15 2047 hHeld ?_
 refine zP 11 18 15 4095 ?_
 refine zN 12 (some 19) 15 8191 (fun K hK => ?_)
 refine value_ (v := .pointer (some ⟨w.drew.heap.size, 0, none⟩)) (w1 := w.drew.alloc (.cells #[.bool (!negb), .slice Ab lb.length ccb] 119)) (by rfl) rfl ?_ ?_
 ·go_simp
 refine hK.out _ _ ⟨pw_cell_below (below_alloc (below_drew' (Below.refl _ w.drew)) _) b0, pw_cell_below (below_alloc (below_drew' (Below.refl _ w.drew)) _) b1⟩ (fun hHeld => ?_)
 clear hK K
 refine zM 19 ?_
 refine zL 13 (some 20) 15 16383 (fun K hK => ?_)
 refine zG Tryz.func90 #[.pointer (some ⟨gx, ox, none⟩), .pointer (some ⟨ga, oa, none⟩), .pointer (some ⟨w.drew.heap.size, 0, none⟩)] ?_
 with_reducible refine (add_n gx ox ga oa w.drew.heap.size 0 a (-b) na nb (w.drew.alloc (.cells #[.bool (!negb), .slice Ab lb.length ccb] 119)) (hx.below hBa) (ha.below hBa) HNB.out hl).mono ?_
 rintro e w2 ⟨rfl, hw, hN⟩
 refine ⟨_, rfl, ?_⟩
 refine hK.out _ _ ?_
 clear hK K
 refine zM 20 ?_
 refine zP 14 6 15 32767 ?_
 refine done_ (by kernel_rfl) ?_
 have HN := aS hN
 clear hN
 go_wp2
 go_ret
 exact ⟨rfl, (Wrote.of_below hBa gx ox).trans hw, by have := HN.out; rwa [← Int.sub_eq_add_neg] at this⟩
theorem signI_n (ga oa : Nat) (a : Int) (na : Nat) (w : World) (ha : IsN w ga oa a na) :
  Calls Tryz.prog 111 #[.pointer (some ⟨ga, oa, none⟩)] w (ValP w (.int .i64 (cmpI a 0))) := by
 obtain ⟨nega, Aa, cca, la, sa, hca, ra, ca, hla, hza, qa⟩ := ha.open
 have a0 := sa.cell0
 have a1 := sa.cell1
 have hz : la = [] → cmpI a 0 = 0 := by
  intro h; rw [hza, h]; cases nega <;> simp [sg, dv, cmpI]
 have hp : la ≠ [] → 0 < dv 4294967296 la := by
  intro h
  have h1 := dv_len (a := []) (by decide) (Dg.nil _) ca (by cases la with | nil => exact absurd rfl h | cons x t => simp)
  simpa only [dv] using h1
 cases la with
 | nil =>
  rw [hz rfl]
  clear hz hp hza qa ha
  go_enter Tryz.func111, Tryz.ntmps111
  go_wp2_with fail
  go_ret
  exact ⟨rfl, Below.refl _ _⟩
 | cons x t =>
  have hp1 := hp (by simp)
  have hb0 : ((((x :: t).length : Nat) : Int) == 0) = false := by simp; omega
  cases nega with
  | true =>
   rw [show cmpI a 0 = -1 by rw [hza]; simp [sg, cmpI]; omega]
   clear hz hp hza qa ha hp1
   go_enter Tryz.func111, Tryz.ntmps111
   go_wp2_with fail
   go_ret
   exact ⟨rfl, Below.refl _ _⟩
  | false =>
   rw [show cmpI a 0 = 1 by rw [hza]; simp [sg, cmpI]; omega]
   clear hz hp hza qa ha hp1
   go_enter Tryz.func111, Tryz.ntmps111
   go_wp2_with fail
   go_ret
   exact ⟨rfl, Below.refl _ _⟩
structure LwI (la : List Int) (k : Nat) (v : Int) : Prop where
 v0 : 0 ≤ v
 v1 : v < pw 4294967296 (min 2 la.length - k)
 val : v = dv 4294967296 ((la.take 2).drop k)
theorem LwI.start (la : List Int) : LwI la (min 2 la.length) 0 := by
 refine ⟨by omega, by simp [pw], ?_⟩
 rw [List.drop_of_length_le (by simp [List.length_take])]
 rfl
theorem LwI.step {la : List Int} {k : Nat} {v : Int} (h : LwI la (k + 1) v) (hd : Dg 4294967296 la) (hk : k < min 2 la.length) : v < 4294967296 ∧ LwI la k (v * 4294967296 + la.getD k 0) := by
 have h1 := hd.getD (by decide) k
 have h2 : v < 4294967296 := by
  have := h.v1
  have h3 : min 2 la.length - (k + 1) = 0 ∨ min 2 la.length - (k + 1) = 1 := by omega
  rcases h3 with h3 | h3 <;> rw [h3] at this <;> simp [pw] at this <;> omega
 have e1 := dv_drop 4294967296 (la.take 2) k (by rw [List.length_take]; exact hk)
 have e2 : (la.take 2).getD k 0 = la.getD k 0 := by
  simp only [List.getD_eq_getElem?_getD, List.getElem?_take]
  rw [if_pos (by omega)]
 refine ⟨h2, by have := h.v0; omega, ?_, ?_⟩
 ·have h4 := dv_lt (by decide) ((hd.take 2).drop k)
  rw [List.length_drop, List.length_take] at h4
  have h5 := h.val
  have : v * 4294967296 + la.getD k 0 = dv 4294967296 ((la.take 2).drop k) := by rw [e1, e2, h5]; omega
  rw [this]
  exact h4
 rw [e1, e2, h.val]; omega
theorem low_n (g o : Nat) (neg : Bool) (A : Option Addr) (c : Nat) (la : List Int) (w : World) (hs : Slot w g o neg (.slice A la.length c)) (hc : la.length ≤ c) (hr : Kd.C (Kd.int .u32) w A la.length la) (hd : Dg 4294967296 la) (hn : la.length ≤ 2) :
  Calls Tryz.prog 131 #[.pointer (some ⟨g, o, none⟩)] w fun e w' => e = .returned (.int .u64 (dv 4294967296 (la.take 2))) ∧ w = w' := by
 have a1 := hs.cell1
 have h0 := LwI.start la
 obtain ⟨L, hL⟩ : ∃ L, L = min 2 la.length := ⟨_, rfl⟩
 rw [← hL] at h0
 have hmin : min (2 : Int) (la.length : Int) = (L : Int) := by omega
 have hmin2 : (min 2 la.length) = L := by omega
 have HL := aS hL
 have HS := aS h0
 have HD := aS (And.intro hr hd)
 clear hL h0 hr hd
 rcases (show la.length < 2 ∨ la.length = 2 by omega) with hlen | hlen
 ·go_enter Tryz.func131, Tryz.ntmps131
  go_wp2_with fail
  go_loopg [3, 4] L (fun kq v3 v4 w' => ∃ (v z : Int), v3 = .int .u64 v ∧ v4 = .int .i64 z ∧ Aside0 (z = (kq : Int) - 1 ∧ kq ≤ L) ∧ Aside0 (LwI la kq v) ∧ w = w')
  case atStart => exact ⟨0, _, rfl, rfl, ⟨by omega⟩, HS, rfl⟩
  case round =>
   clear HS
   obtain ⟨v, z, rfl, rfl, HK, HI, rfl⟩ := hrel
   cases gk with
   | zero =>
    obtain rfl : z = -1 := by have := HK.out.1; omega
    have hb9 : decide ((0 : Int) ≤ -1) = false := by decide
    go_wp2_with fail
    go_ret
    exact ⟨ret_i (by rw [HI.out.val, List.drop_zero]), rfl⟩
   | succ k1 =>
    obtain rfl : z = (k1 : Int) := by have := HK.out.1; omega
    have hk : k1 < la.length := by have := HK.out.2; have := HL.out; omega
    obtain ⟨ada, ea, hac⟩ := mag_cell HD.out.1 (Below.refl _ _) k1 hk
    cases ea
    obtain ⟨hv1, hst⟩ := HI.out.step HD.out.2 (by have := HK.out.2; have := HL.out; omega)
    have hv0 := HI.out.v0
    have hda := HD.out.2.getD (by decide) k1
    generalize la.getD k1 0 = a at hac hst hda
    obtain ⟨hda0, hda1⟩ := hda
    have hor : bits BinOp.or IntKind.u64 (v * 4294967296) a = v * 4294967296 + a := or_high _ _ 32 (by omega) (by omega) (by omega) hda0 (by omega) (by omega)
    have HST := aS hst
    clear hst
    go_wp2_with fail
    go_roundg k1
    case measure => omega
    case rel => exact ⟨_, _, rfl, rfl, ⟨by have := HK.out; omega⟩, HST, rfl⟩
 go_enter Tryz.func131, Tryz.ntmps131
 go_wp2_with fail
 go_loopg [3, 4] L (fun kq v3 v4 w' => ∃ (v z : Int), v3 = .int .u64 v ∧ v4 = .int .i64 z ∧ Aside0 (z = (kq : Int) - 1 ∧ kq ≤ L) ∧ Aside0 (LwI la kq v) ∧ w = w')
 case atStart => exact ⟨0, _, rfl, rfl, ⟨by omega⟩, HS, rfl⟩
 case round =>
  clear HS
  obtain ⟨v, z, rfl, rfl, HK, HI, rfl⟩ := hrel
  cases gk with
  | zero =>
   obtain rfl : z = -1 := by have := HK.out.1; omega
   have hb9 : decide ((0 : Int) ≤ -1) = false := by decide
   go_wp2_with fail
   go_ret
   exact ⟨ret_i (by rw [HI.out.val, List.drop_zero]), rfl⟩
  | succ k1 =>
   obtain rfl : z = (k1 : Int) := by have := HK.out.1; omega
   have hk : k1 < la.length := by have := HK.out.2; have := HL.out; omega
   obtain ⟨ada, ea, hac⟩ := mag_cell HD.out.1 (Below.refl _ _) k1 hk
   cases ea
   obtain ⟨hv1, hst⟩ := HI.out.step HD.out.2 (by have := HK.out.2; have := HL.out; omega)
   have hv0 := HI.out.v0
   have hda := HD.out.2.getD (by decide) k1
   generalize la.getD k1 0 = a at hac hst hda
   obtain ⟨hda0, hda1⟩ := hda
   have hor : bits BinOp.or IntKind.u64 (v * 4294967296) a = v * 4294967296 + a := or_high _ _ 32 (by omega) (by omega) (by omega) hda0 (by omega) (by omega)
   have HST := aS hst
   clear hst
   go_wp2_with fail
   go_roundg k1
   case measure => omega
   case rel => exact ⟨_, _, rfl, rfl, ⟨by have := HK.out; omega⟩, HST, rfl⟩
theorem len2 {la : List Int} (hc : Cn 4294967296 la) (h : dv 4294967296 la < 18446744073709551616) : la.length ≤ 2 := by
 refine Nat.le_of_not_lt fun h2 => ?_
 have h1 := dv_len (B := 4294967296) (a := [4294967295, 4294967295]) (by decide) (by intro x hx; simp at hx; omega) hc (by simp; omega)
 simp [dv] at h1
 omega
theorem int64_n (ga oa : Nat) (a : Int) (na : Nat) (w : World) (ha : IsN w ga oa a na) (h0 : -9223372036854775807 ≤ a) (h1 : a ≤ 9223372036854775807) (hn : na ≤ 1000) :
  Calls Tryz.prog 84 #[.pointer (some ⟨ga, oa, none⟩)] w (ValP w (.int .i64 a)) := by
 obtain ⟨nega, Aa, cca, la, sa, hca, ra, ca, hla, hza, qa⟩ := ha.open
 have a0 := sa.cell0
 have p0 := dv_nonneg (by decide) ca.dg
 have hlt : dv 4294967296 la < 9223372036854775808 := by
  cases nega <;> simp [sg] at hza <;> omega
 have hl2 := len2 ca (by omega)
 have hlo := low_n ga oa nega Aa cca la w sa hca ra ca.dg (by omega)
 rw [List.take_of_length_le hl2] at hlo
 generalize dv 4294967296 la = m at *
 have HLO := aS hlo
 clear hlo ha ra ca qa sa
 cases nega with
 | true =>
  have hm : a = -m := by simpa [sg] using hza
  clear hza
  go_enter Tryz.func84, Tryz.ntmps84
  go_wp2_with fail
  refine HLO.out.mono ?_
  rintro e w1 ⟨rfl, rfl⟩
  go_wp2_with fail
  go_ret
  exact ⟨ret_i hm.symm, Below.refl _ _⟩
 | false =>
  have hm : a = m := by simpa [sg] using hza
  clear hza
  go_enter Tryz.func84, Tryz.ntmps84
  go_wp2_with fail
  refine HLO.out.mono ?_
  rintro e w1 ⟨rfl, rfl⟩
  go_wp2_with fail
  go_ret
  exact ⟨ret_i hm.symm, Below.refl _ _⟩
end Go.Proofs.YtekommcfpjonmaaGreat.Qa
namespace Go.Proofs.YtekommcfpjonmaaGreat.Qb
open RowKit Go YtekommcfpjonmaaGreatW.PrintWords YtekommcfpjonmaaGreatW.PrintLast YtekommcfpjonmaaGreatW.PrintMore Ml Mn Nd Z P Nc Na Nb Ns Da Dc Qa
end Go.Proofs.YtekommcfpjonmaaGreat.Qb

namespace Go.Proofs.YtekommcfpjonmaaGreat.Ea
open RowKit Go YtekommcfpjonmaaGreatW.PrintWords YtekommcfpjonmaaGreatW.PrintLast YtekommcfpjonmaaGreatW.PrintMore Ml Mn Nd Z P Nc Nb Qa Qb E
theorem gcd_l (y : Nat) : ∀ x k : Nat, y < k → exact_gcd.l0 k (x : Int) (y : Int) = some ((Nat.gcd x y : Nat) : Int) := by
 induction y using Nat.strongRecOn with
 | _ y ih =>
  intro x k hk
  obtain ⟨k, rfl⟩ : ∃ j, k = j + 1 := ⟨k - 1, by omega⟩
  unfold exact_gcd.l0
  by_cases hy : y = 0
  ·subst hy
   simp
  rw [if_neg (by omega)]
  have e : Int.tmod (x : Int) (y : Int) = ((x % y : Nat) : Int) := by rw [Int.tmod_eq_emod_of_nonneg (by omega)]; simp
  rw [e, ih (x % y) (Nat.mod_lt _ (by omega)) y k (by have := Nat.mod_lt x (show y > 0 by omega); omega)]
  congr 2
  rw [Nat.gcd_comm x y, Nat.gcd_rec y x, Nat.gcd_comm]
theorem gcd_f (a : Int) (b : Nat) (k : Nat) (h0 : -9223372036854775807 ≤ a) (h1 : a ≤ 9223372036854775807) (hk : b + 1 < k) : exact_gcd.f k a (b : Int) = some ((Int.gcd a b : Nat) : Int) := by
 obtain ⟨k, rfl⟩ : ∃ j, k = j + 1 := ⟨k - 1, by omega⟩
 have ej : ∀ x y, exact_gcd.j0 (k + 1) x y = exact_gcd.l0 k x y := fun _ _ => by unfold exact_gcd.j0; rfl
 unfold exact_gcd.f
 rw [ej, ej]
 by_cases ha : a < 0
 ·rw [if_pos ha, w64 (by omega) (by omega)]
  obtain ⟨n, hn⟩ : ∃ n : Nat, -a = (n : Int) := ⟨(-a).toNat, by omega⟩
  rw [hn, gcd_l b n k (by omega)]
  have : Int.gcd a b = Nat.gcd n b := by
   rw [show a = -(n : Int) by omega, Int.neg_gcd]; rfl
  rw [this]
 rw [if_neg ha]
 obtain ⟨n, rfl⟩ : ∃ n : Nat, a = (n : Int) := ⟨a.toNat, by omega⟩
 rw [gcd_l b n k (by omega)]
 rfl
def lowN (n d : Int) : Int := n / (Int.gcd n d : Int)
def lowD (n d : Int) : Int := d / (Int.gcd n d : Int)
theorem div_bound {n g : Int} (hg : 1 ≤ g) {m : Int} (h0 : -m ≤ n) (h1 : n ≤ m) (hd : g ∣ n) : -m ≤ n / g ∧ n / g ≤ m := by
 obtain ⟨q, rfl⟩ := hd
 rw [Int.mul_ediv_cancel_left _ (by omega)]
 have hm : 0 ≤ m := by omega
 rcases Int.lt_or_le q 0 with h | h
 ·have : g * (-q) ≥ 1 * (-q) := Int.mul_le_mul_of_nonneg_right hg (by omega)
  rw [Int.mul_neg] at this
  omega
 have : g * q ≥ 1 * q := Int.mul_le_mul_of_nonneg_right hg h
 omega
theorem lowest_f (n : Int) (d : Int) (h0 : -9223372036854775807 ≤ n) (h1 : n ≤ 9223372036854775807) (hd : 1 ≤ d) (hd1 : d ≤ 9223372036854775807) : ∃ k, exact_lowest.f k n d = some (lowN n d, lowD n d) := by
 obtain ⟨m, rfl⟩ : ∃ m : Nat, d = (m : Int) := ⟨d.toNat, by omega⟩
 refine ⟨m + 2, ?_⟩
 unfold exact_lowest.f lowN lowD
 rw [gcd_f n m (m + 2) h0 h1 (by omega), Option.bind_some]
 have hg : 1 ≤ ((Int.gcd n m : Nat) : Int) := by
  have := Int.gcd_pos_of_ne_zero_right n (show (m : Int) ≠ 0 by omega)
  omega
 have d1 : ((Int.gcd n m : Nat) : Int) ∣ n := Int.gcd_dvd_left n m
 have d2 : ((Int.gcd n m : Nat) : Int) ∣ (m : Int) := Int.gcd_dvd_right n m
 rw [if_neg (by omega), Int.tdiv_eq_ediv_of_dvd d1, Int.tdiv_eq_ediv_of_dvd d2]
 have b1 := div_bound hg h0 h1 d1
 have b2 := div_bound hg (m := 9223372036854775807) (by omega) hd1 d2
 rw [w64 (by omega) (by omega), w64 (by omega) (by omega)]
def isScale (s : Int) : Bool := decide (1 ≤ s) && decide (s ≤ 1000000)
def valid (n d : Int) : Bool := decide (1 ≤ d) && decide (d ≤ 1152921504606846976) && decide (-1152921504606846976 ≤ n) && decide (n ≤ 1152921504606846976)
def tm (n d : Int) : Value := .agg #[.int .i64 n, .int .i64 d]
theorem isScale_n (s : Int) (w : World) : Calls Tryz.prog 78 #[.int .i64 s] w (fun e w' => e = .returned (.bool (isScale s)) ∧ w = w') := by
 go_enter Tryz.func78, Tryz.ntmps78
 go_wp2
 all_goals
  go_ret
  refine ⟨ret_b ?_, rfl⟩
  unfold isScale
  first | (simp_all; done) | (simp_all; omega) | grind
theorem Valid_n (n d : Int) (w : World) : Calls Tryz.prog 38 #[tm n d] w (fun e w' => e = .returned (.bool (valid n d)) ∧ Below w.heap.size w w') := by
 have hu := Tryz.underlying24
 unfold tm
 go_enter Tryz.func38, Tryz.ntmps38
 go_wp2
 all_goals
  go_ret
  refine ⟨ret_b ?_, below_alloc (Below.refl _ _) _⟩
  unfold valid
  first | (simp_all; done) | (simp_all; omega) | grind
end Go.Proofs.YtekommcfpjonmaaGreat.Ea

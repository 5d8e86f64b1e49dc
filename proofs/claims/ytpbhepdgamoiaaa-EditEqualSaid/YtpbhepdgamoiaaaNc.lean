/-
  What the calls of package num do to numbers in memory: set, SetInt64, NewInt, Mul.
-/
import Derived.Test.YtpbhepdgamoiaaaNd
namespace Go.Proofs.Ytpbhepdgamoiaaa.Nc
open Go.RowKit Go Go.Proofs.YtpbhepdgamoiaaaW.PrintWords Go.Proofs.YtpbhepdgamoiaaaW.PrintLast Go.Proofs.YtpbhepdgamoiaaaW.PrintMore Go.Proofs.Ytpbhepdgamoiaaa.Ml Go.Proofs.Ytpbhepdgamoiaaa.Mn Go.Proofs.Ytpbhepdgamoiaaa.Nd Go.Proofs.Ytpbhepdgamoiaaa.P
set_option linter.unusedVariables false
set_option linter.unusedSimpArgs false

set_option maxHeartbeats 1000000 in
theorem set_w (g o : Nat) (A : Option Addr) (n c : Nat) (neg neg0 : Bool) (v0 : Value) (w : World) (hs : Slot w g o neg0 v0) :
    Calls Try.prog 114 #[.pointer (some ⟨g, o, none⟩), .bool neg, .slice A n c] w fun e w' => e = .returned (.pointer (some ⟨g, o, none⟩)) ∧ ∃ k, ((w.setCell ⟨g, o, none⟩ (.bool (neg && decide (0 < n)))).setCell ⟨g, o + 1, none⟩ (.slice A n c)).drewN k = w' := by
  have h0 := hs.cell0
  have h1 := hs.cell1
  have f0 := hs.free o
  have f1 := hs.free (o + 1)
  clear hs
  cases neg
  all_goals
    go_enter Try.func114, Try.ntmps114
    go_wp2
    go_ret
    exact ⟨rfl, 0, rfl⟩
theorem set_n (g o : Nat) (v : Value) (l : List Int) (neg : Bool) (n : Nat) (w : World) (hr : Room w g o) (hm : Mag w v l) (hc : Cn 4294967296 l) (hn : l.length ≤ n) :
    Calls Try.prog 114 #[.pointer (some ⟨g, o, none⟩), .bool neg, v] w (SetP w g o (sg neg (dv 4294967296 l)) n) := by
  obtain ⟨neg0, v0, hs⟩ := hr
  obtain ⟨A, c, rfl, _, _⟩ := hm.slice
  refine (set_w g o A l.length c neg neg0 v0 w hs).mono ?_
  rintro e w' ⟨rfl, k, rfl⟩
  obtain ⟨hw, hs'⟩ := Wrote.set hs (neg && decide (0 < l.length)) A l.length c k rfl
  refine ⟨rfl, hw, _, _, l, hs', hw.mag ⟨_, _, hs⟩ hm, hc, hn, ?_, ?_⟩
  · cases l with
    | nil => cases neg <;> simp [dv, sg]
    | cons x l => cases neg <;> simp
  · cases l with
    | nil => simp
    | cons x l => simp

theorem room_new (w : World) : Room (w.alloc (.cells #[.bool false, .slice none 0 0] 86)) w.heap.size 0 :=
  ⟨false, .slice none 0 0, ⟨#[.bool false, .slice none 0 0], 86, blk_new w _, ⟨none, 0, 0, rfl⟩, rfl, rfl⟩⟩
def bs (n m : Nat) : Array Bool := ((List.range n).map m.testBit).toArray
set_option maxHeartbeats 1000000 in
theorem setInt_n (g o : Nat) (z : Int) (w : World) (hr : Room w g o) (h0 : -9223372036854775808 ≤ z) (h1 : z ≤ 9223372036854775807) :
    Calls Try.prog 118 #[.pointer (some ⟨g, o, none⟩), .int .i64 z] w (SetP w g o z 2) := by
  by_cases hz : z < 0
  · obtain ⟨r, hf, hc, hv, hn⟩ := magOf_f (-z) (by omega) (by omega)
    have e1 : IntKind.u64.wrap (-IntKind.u64.wrap z) = -z := by rw [u64m, u64m]; omega
    have HR := Lib.hid hr
    have HE := Lib.hid e1
    clear hr e1
    go_enter Try.func118, Try.ntmps118
    go_wp2_with fail
    rw [HE.out]
    refine (num_magOf.calls 3 (-z) r w hf).mono ?_
    rintro e w1 ⟨v, rfl, hV, hb⟩
    go_wp2_with fail
    refine (set_n g o v r true 2 w1 (HR.out.below hb) (Mag.of hV) hc hn).mono ?_
    rintro e w2 ⟨rfl, hw, hN⟩
    go_wp2_with fail
    go_ret
    exact ⟨rfl, (Wrote.of_below hb g o).trans hw, by simpa [hv, sg] using hN⟩
  · obtain ⟨r, hf, hc, hv, hn⟩ := magOf_f z (by omega) (by omega)
    have HR := Lib.hid hr
    clear hr
    go_enter Try.func118, Try.ntmps118
    go_wp2_with fail
    refine (num_magOf.calls 3 z r w hf).mono ?_
    rintro e w1 ⟨v, rfl, hV, hb⟩
    go_wp2_with fail
    refine (set_n g o v r false 2 w1 (HR.out.below hb) (Mag.of hV) hc hn).mono ?_
    rintro e w2 ⟨rfl, hw, hN⟩
    go_wp2_with fail
    go_ret
    exact ⟨rfl, (Wrote.of_below hb g o).trans hw, by simpa [hv, sg] using hN⟩
set_option maxHeartbeats 1000000 in
theorem newInt_n (z : Int) (w : World) (h0 : -9223372036854775808 ≤ z) (h1 : z ≤ 9223372036854775807) :
    Calls Try.prog 64 #[.int .i64 z] w (NewP w z 2) := by
  go_enter Try.func64, Try.ntmps64
  go_wp2_with fail
  refine (setInt_n w.heap.size 0 z _ (room_new w) h0 h1).mono ?_
  rintro e w1 ⟨rfl, hw, hN⟩
  go_wp2_with fail
  go_ret
  exact ⟨_, Nat.le_refl _, rfl, (below_alloc (Below.refl _ w) _).trans (hw.below (Nat.le_refl _) (by simp)), hN⟩
set_option maxHeartbeats 2000000 in
set_option maxRecDepth 100000 in
theorem mul_n (gx ox ga oa gb ob : Nat) (a b : Int) (na nb : Nat) (w : World) (hx : Room w gx ox) (ha : IsN w ga oa a na) (hb : IsN w gb ob b nb) (hl : na + nb ≤ 1000) :
    Calls Try.prog 157 #[.pointer (some ⟨gx, ox, none⟩), .pointer (some ⟨ga, oa, none⟩), .pointer (some ⟨gb, ob, none⟩)] w (SetP w gx ox (a * b) (na + nb)) := by
  obtain ⟨nega, va, la, sa, ma, ca, hla, hza, qa⟩ := ha.at_
  obtain ⟨negb, vb, lb, sb, mb, cb, hlb, hzb, qb⟩ := hb.at_
  have hz : sg (!nega == negb) (dv 4294967296 la * dv 4294967296 lb) = a * b := by rw [sg_mul, hza, hzb]
  clear hza hzb
  obtain ⟨Aa, cca, rfl, hca, ra⟩ := ma.slice
  obtain ⟨Ab, ccb, rfl, hcb, rb⟩ := mb.slice
  obtain ⟨k, r, hf, hc, hv, hn⟩ := mul_f la lb ca.dg cb.dg (by omega)
  have a0 := sa.cell0
  have a1 := sa.cell1
  have b0 := sb.cell0
  have b1 := sb.cell1
  rw [← hv] at hz
  have HZ := Lib.hid hz
  clear ha hb hz hv
  go_enter Try.func157, Try.ntmps157
  go_wp2_with fail
  refine start_ (n := 21) (S := fun w' => w'.cell? ⟨ga, oa, none⟩ = some (.bool nega) ∧ w'.cell? ⟨ga, oa + 1, none⟩ = some (.slice Aa la.length cca) ∧ w'.cell? ⟨gb, ob, none⟩ = some (.bool negb) ∧ w'.cell? ⟨gb, ob + 1, none⟩ = some (.slice Ab lb.length ccb)) (ds := [19]) (bs 21 0) (by kernel_rfl) rfl rfl ⟨a0, a1, b0, b1⟩ (fun hHeld => ?_)
  refine pure_ (i := 0) (N := some 7) (v := ?_) (a' := ?_) (bs 21 1) rfl rfl (by kernel_rfl) (fun _ _ _ h => h) (Or.inl ⟨by rfl, ?_⟩) ?_ ?_; rotate_left; (· intro w'; go_simp; first | done | with_reducible rfl); rotate_left; (· simp only [Act.put, List.setIfInBounds_toArray, List.set_cons_zero, List.set_cons_succ, i64_w, i32_w]; rfl)
  refine pure_ (i := 1) (N := some 8) (v := ?_) (a' := ?_) (bs 21 3) rfl rfl (by kernel_rfl) (fun _ _ _ h => h) (Or.inl ⟨by rfl, ?_⟩) ?_ ?_; rotate_left; (· intro w'; go_simp; first | done | with_reducible rfl); rotate_left; (· simp only [Act.put, List.setIfInBounds_toArray, List.set_cons_zero, List.set_cons_succ, i64_w, i32_w]; rfl)
  refine pure_ (i := 2) (N := some 9) (v := ?_) (a' := ?_) (bs 21 7) rfl rfl (by kernel_rfl) (fun _ _ _ h => h) (Or.inl ⟨by rfl, ?_⟩) ?_ ?_; rotate_left; (· intro w'; go_simp; first | done | with_reducible rfl); rotate_left; (· simp only [Act.put, List.setIfInBounds_toArray, List.set_cons_zero, List.set_cons_succ, i64_w, i32_w]; rfl)
  refine pure_ (i := 3) (N := some 10) (v := ?_) (a' := ?_) (bs 21 15) rfl rfl (by kernel_rfl) (fun _ _ _ h => h) (Or.inl ⟨by rfl, ?_⟩) ?_ ?_; rotate_left; (· intro w'; go_simp; first | done | with_reducible rfl); rotate_left; (· simp only [Act.put, List.setIfInBounds_toArray, List.set_cons_zero, List.set_cons_succ, i64_w, i32_w]; rfl)
  refine pure_ (i := 5) (N := some 12) (v := ?_) (a' := ?_) (bs 21 47) rfl rfl (by kernel_rfl) (fun _ _ _ h => h) (Or.inl ⟨by rfl, ?_⟩) ?_ ?_; rotate_left; (· intro w'; go_simp; first | done | with_reducible rfl); rotate_left; (· simp only [Act.put, List.setIfInBounds_toArray, List.set_cons_zero, List.set_cons_succ, i64_w, i32_w]; rfl)
  refine pure_ (i := 6) (N := some 13) (v := ?_) (a' := ?_) (bs 21 111) rfl rfl (by kernel_rfl) (fun _ _ _ h => h) (Or.inl ⟨by rfl, ?_⟩) ?_ ?_; rotate_left; (· intro w'; go_simp; first | done | with_reducible rfl); rotate_left; (· simp only [Act.put, List.setIfInBounds_toArray, List.set_cons_zero, List.set_cons_succ, i64_w, i32_w]; rfl)
  refine pure_ (i := 7) (N := some 14) (v := ?_) (a' := ?_) (bs 21 239) rfl rfl (by kernel_rfl) (fun _ _ _ h => h) (Or.inl ⟨by rfl, ?_⟩) ?_ ?_; rotate_left; (· intro w'; go_simp; first | done | with_reducible rfl); rotate_left; (· simp only [Act.put, List.setIfInBounds_toArray, List.set_cons_zero, List.set_cons_succ, i64_w, i32_w]; rfl)
  refine pure_ (i := 10) (N := some 17) (v := ?_) (a' := ?_) (bs 21 1263) rfl rfl (by kernel_rfl) (fun _ _ _ h => h) (Or.inl ⟨by rfl, ?_⟩) ?_ ?_; rotate_left; (· intro w'; go_simp; first | done | with_reducible rfl); rotate_left; (· simp only [Act.put, List.setIfInBounds_toArray, List.set_cons_zero, List.set_cons_succ, i64_w, i32_w]; rfl)
  refine pure_ (i := 11) (N := some 18) (v := ?_) (a' := ?_) (bs 21 3311) rfl rfl (by kernel_rfl) (fun _ _ _ h => h) (Or.inl ⟨by rfl, ?_⟩) ?_ ?_; rotate_left; (· intro w'; go_simp; first | done | with_reducible rfl); rotate_left; (· simp only [Act.put, List.setIfInBounds_toArray, List.set_cons_zero, List.set_cons_succ, i64_w, i32_w]; rfl)
  refine pure_ (i := 12) (N := some 19) (v := ?_) (a' := ?_) (bs 21 7407) rfl rfl (by kernel_rfl) (fun _ _ _ h => h) (Or.inl ⟨by rfl, ?_⟩) ?_ ?_; rotate_left; (· intro w'; go_simp; first | done | with_reducible rfl); rotate_left; (· simp only [Act.put, List.setIfInBounds_toArray, List.set_cons_zero, List.set_cons_succ, i64_w, i32_w]; rfl)
  refine pure_ (i := 14) (N := some 21) (v := ?_) (a' := ?_) (bs 21 23791) rfl rfl (by kernel_rfl) (fun _ _ _ h => h) (Or.inl ⟨by rfl, ?_⟩) ?_ ?_; rotate_left; (· intro w'; go_simp; first | done | with_reducible rfl); rotate_left; (· simp only [Act.put, List.setIfInBounds_toArray, List.set_cons_zero, List.set_cons_succ, i64_w, i32_w]; rfl)
  refine pure_ (i := 15) (N := some 22) (v := ?_) (a' := ?_) (bs 21 56559) rfl rfl (by kernel_rfl) (fun _ _ _ h => h) (Or.inl ⟨by rfl, ?_⟩) ?_ ?_; rotate_left; (· intro w'; go_simp; first | done | with_reducible rfl); rotate_left; (· simp only [Act.put, List.setIfInBounds_toArray, List.set_cons_zero, List.set_cons_succ, i64_w, i32_w]; rfl)
  refine pure_ (i := 16) (N := some 23) (v := ?_) (a' := ?_) (bs 21 122095) rfl rfl (by kernel_rfl) (fun _ _ _ h => h) (Or.inl ⟨by rfl, ?_⟩) ?_ ?_; rotate_left; (· intro w'; go_simp; first | done | with_reducible rfl); rotate_left; (· simp only [Act.put, List.setIfInBounds_toArray, List.set_cons_zero, List.set_cons_succ, i64_w, i32_w]; rfl)
  refine take_ (i := 4) (N := some 11) (v := ?_) (a' := ?_) (bs 21 122111) rfl rfl (by kernel_rfl) (fun _ _ _ h => h) (Or.inl ⟨by rfl, ?_⟩) hHeld ?_ ?_; rotate_left; (· rintro w' ⟨s0, s1, s2, s3⟩; go_simp; first | done | with_reducible rfl); rotate_left; (· simp only [Act.put, List.setIfInBounds_toArray, List.set_cons_zero, List.set_cons_succ, i64_w, i32_w]; rfl)
  refine take_ (i := 8) (N := some 15) (v := ?_) (a' := ?_) (bs 21 122367) rfl rfl (by kernel_rfl) (fun _ _ _ h => h) (Or.inl ⟨by rfl, ?_⟩) hHeld ?_ ?_; rotate_left; (· rintro w' ⟨s0, s1, s2, s3⟩; go_simp; first | done | with_reducible rfl); rotate_left; (· simp only [Act.put, List.setIfInBounds_toArray, List.set_cons_zero, List.set_cons_succ, i64_w, i32_w]; rfl)
  refine pure_ (i := 9) (N := some 16) (v := ?_) (a' := ?_) (bs 21 122879) rfl rfl (by kernel_rfl) (fun _ _ _ h => h) (Or.inl ⟨by rfl, ?_⟩) ?_ ?_; rotate_left; (· intro w'; go_simp; first | done | with_reducible rfl); rotate_left; (· simp only [Act.put, List.setIfInBounds_toArray, List.set_cons_zero, List.set_cons_succ, i64_w, i32_w]; rfl)
  refine take_ (i := 13) (N := some 20) (v := ?_) (a' := ?_) (bs 21 131071) rfl rfl (by kernel_rfl) (fun _ _ _ h => h) (Or.inl ⟨by rfl, ?_⟩) hHeld ?_ ?_; rotate_left; (· rintro w' ⟨s0, s1, s2, s3⟩; go_simp; first | done | with_reducible rfl); rotate_left; (· simp only [Act.put, List.setIfInBounds_toArray, List.set_cons_zero, List.set_cons_succ, i64_w, i32_w]; rfl)
  refine take_ (i := 17) (N := some 24) (v := ?_) (a' := ?_) (bs 21 262143) rfl rfl (by kernel_rfl) (fun _ _ _ h => h) (Or.inl ⟨by rfl, ?_⟩) hHeld ?_ ?_; rotate_left; (· rintro w' ⟨s0, s1, s2, s3⟩; go_simp; first | done | with_reducible rfl); rotate_left; (· simp only [Act.put, List.setIfInBounds_toArray, List.set_cons_zero, List.set_cons_succ, i64_w, i32_w]; rfl)
  refine one_ (i := 18) (N := some 25) (bs 21 524287) rfl rfl (by kernel_rfl) (by decide) (fun K hK => ?_)
  refine goes_ Try.func164 (by kernel_rfl) rfl #[.slice Aa la.length cca, .slice Ab lb.length ccb] (by rfl) rfl rfl (by simp only [List.map_toArray, List.map_cons, List.map_nil]; rfl) ?_
  with_reducible refine (num_mulMag.calls k Aa cca la Ab ccb lb r _ (Kd.C_drew ra) hca (Kd.C_drew rb) hcb hf).mono ?_
  rintro e w1 ⟨v, rfl, hV, hb⟩
  refine ⟨_, rfl, ?_⟩
  have hb' := below_drew' hb
  refine hK.out _ _ ⟨(sa.below hb').cell0, (sa.below hb').cell1, (sb.below hb').cell0, (sb.below hb').cell1⟩ (fun hHeld => ?_)
  clear hK K
  refine norm_ (a' := ?_) ?_ ?_; rotate_left; (· show Act.put _ (some 25) _ = _; simp only [Act.put, List.setIfInBounds_toArray, List.set_cons_zero, List.set_cons_succ, i64_w, i32_w]; rfl)
  refine last_ (i := 19) (N := some 26) (bs 21 1048575) rfl rfl (by kernel_rfl) (by decide) (fun K hK => ?_)
  refine goes_ Try.func114 (by kernel_rfl) rfl #[.pointer (some ⟨gx, ox, none⟩), .bool (!nega == negb), v] (by rfl) rfl rfl (by simp only [List.map_toArray, List.map_cons, List.map_nil]; rfl) ?_
  with_reducible refine (set_n gx ox v r (!nega == negb) (na + nb) w1 (hx.below hb') (Mag.of hV) hc (by omega)).mono ?_
  rintro e w2 ⟨rfl, hw, hN⟩
  refine ⟨_, rfl, ?_⟩
  refine hK.out _ _ ?_
  clear hK K
  refine norm_ (a' := ?_) ?_ ?_; rotate_left; (· show Act.put _ (some 26) _ = _; simp only [Act.put, List.setIfInBounds_toArray, List.set_cons_zero, List.set_cons_succ, i64_w, i32_w]; rfl)
  refine pure_ (i := 20) (N := some 6) (v := ?_) (a' := ?_) (bs 21 2097151) rfl rfl (by kernel_rfl) (fun _ _ _ h => h) (Or.inl ⟨by rfl, ?_⟩) ?_ ?_; rotate_left; (· intro w'; go_simp; first | done | with_reducible rfl); rotate_left; (· simp only [Act.put, List.setIfInBounds_toArray, List.set_cons_zero, List.set_cons_succ, i64_w, i32_w]; rfl)
  refine done_ (by kernel_rfl) ?_
  go_wp2
  go_ret
  exact ⟨rfl, (Wrote.of_below hb' gx ox).trans hw, HZ.out ▸ hN⟩
theorem trim_n (v : Value) (l : List Int) (base : Nat) (ok : Nat → Prop) (w : World) (h : Kd.R (Kd.int .u32) 157 w base ok v l) (hd : Dg 4294967296 l) (hn : l.length ≤ 1099511627776) :
    Calls Try.prog 151 #[v] w fun e w' => ∃ v r, e = .returned v ∧ Mag w' v r ∧ Cn 4294967296 r ∧ dv 4294967296 r = dv 4294967296 l ∧ r.length ≤ l.length ∧ Below w.heap.size w w' := by
  obtain ⟨A, c, rfl⟩ := Kd.R_slice h
  obtain ⟨r, hf, hc, hv, hl⟩ := trim_f l hd hn (l.length + 1) (by omega)
  refine (num_trim.calls (l.length + 1) ok A c l r w (Kd.R_V h) hf).mono ?_
  rintro e w' ⟨v, rfl, hV, hb⟩
  exact ⟨v, r, rfl, Mag.of hV, hc, hv, hl, hb⟩
end Go.Proofs.Ytpbhepdgamoiaaa.Nc

/-
  slices.Repeat, and edit.Repeat on it.
-/
import Derived.Test.YtpbhepdgamoiaaaQREditChainsg
import Derived.Laws.IdiomCopy
import Derived.Laws.MathBits
import Derived.IntWalk
namespace Go.Proofs.Ytpbhepdgamoiaaa.Rp
open Go.RowKit Go Go.Proofs.YtpbhepdgamoiaaaW.PrintWords Go.Proofs.YtpbhepdgamoiaaaW.PrintLast Go.Proofs.YtpbhepdgamoiaaaW.PrintMore Go.Proofs.Ytpbhepdgamoiaaa.Mn Go.Proofs.Ytpbhepdgamoiaaa.Nd Go.Proofs.Ytpbhepdgamoiaaa.Z Go.Proofs.Ytpbhepdgamoiaaa.Rf Go.Proofs.Ytpbhepdgamoiaaa.Er Go.Proofs.Ytpbhepdgamoiaaa.Ek Go.Proofs.Ytpbhepdgamoiaaa.Et Go.Proofs.Ytpbhepdgamoiaaa.E Go.Proofs.Ytpbhepdgamoiaaa.Pe Go.Proofs.Ytpbhepdgamoiaaa.Pf Go.Proofs.Ytpbhepdgamoiaaa.Ct Go.Proofs.Ytpbhepdgamoiaaa.Jn
set_option linter.unusedVariables false
set_option linter.unusedSimpArgs false
def encE (x : Ed) : List Value := [.int .i64 x.f0, .int .i64 x.f1, .int .i64 x.f2, .int .i64 x.f3]
def encL : List Ed → List Value
 | [] => []
 | x :: t => encE x ++ encL t
theorem encL_len : ∀ l : List Ed, (encL l).length = l.length * 4
 | [] => rfl
 | x :: t => by
  simp only [encL, List.length_append, encL_len t, List.length_cons]
  show 4 + t.length * 4 = (t.length + 1) * 4
  omega
theorem encL_app : ∀ a b : List Ed, encL (a ++ b) = encL a ++ encL b
 | [], b => rfl
 | x :: t, b => by simp only [List.cons_append, encL, encL_app t b, List.append_assoc]
theorem encL_at : ∀ (l : List Ed) (j : Nat) (v : Value), (encL l)[j]? = some v → ∃ p, l[j / 4]? = some p ∧ (encE p)[j % 4]? = some v
 | [], j, v, h => by simp [encL] at h
 | x :: t, j, v, h => by
  simp only [encL] at h
  by_cases hj : j < 4
  ·rw [List.getElem?_append_left (by show j < 4; exact hj)] at h
   refine ⟨x, by rw [Nat.div_eq_of_lt hj]; rfl, by rw [Nat.mod_eq_of_lt hj]; exact h⟩
  ·obtain ⟨i, rfl⟩ : ∃ i, j = i + 4 := ⟨j - 4, by omega⟩
   rw [List.getElem?_append_right (by show 4 ≤ i + 4; omega)] at h
   have h' : (encL t)[i]? = some v := h
   obtain ⟨p, h1, h2⟩ := encL_at t i v h'
   refine ⟨p, ?_, by rw [Nat.add_mod_right]; exact h2⟩
   rw [Nat.add_div_right i (by decide)]
   simpa using h1
theorem encL_one (l : List Ed) : ∀ v ∈ encL l, v.oneCell' = true := by
 induction l with
 | nil => intro v h; cases h
 | cons x t ih =>
  intro v h
  simp only [encL] at h
  rcases List.mem_append.1 h with h | h
  ·unfold encE at h
   simp only [List.mem_cons, List.not_mem_nil, or_false] at h
   rcases h with rfl | rfl | rfl | rfl <;> rfl
  ·exact ih v h
theorem encL_reps {w : World} {base : Nat} {ok : Nat → Prop} : ∀ l : List Ed, Reps (fun (x : Ed) cs => Kd.M k77 w base ok x cs) 4 l (encL l)
 | [] => Reps.none _ _
 | x :: t => Reps.c4 (k77_mkM w base ok x) (encL_reps t)
theorem run_copy_four {P : Program} (w : World) (dT sT ty elem : TypeId) (b o dLen dCap : Nat) (a : Addr) (sLen sCap : Nat) (cs : List Value) (k : Nat)
  (hu : P.underlying dT = some (.slice elem)) (hs : (P.info? elem).map (·.size) = some 4) (hk : k = Nat.min sLen dLen) (hn : cs.length = k * 4)
  (hsrc : ∀ j v, cs[j]? = some v → w.cell? (a.add j) = some v) (hc : ∀ j, j < cs.length → (w.cell? ⟨b, o + j, none⟩).isSome = true) (hf : ∀ j, j < cs.length → w.frozen? ⟨b, o + j, none⟩ = false) (h1 : ∀ v ∈ cs, v.oneCell' = true) :
  (Builtin.copy_ #[dT, sT] ty #[.slice (some ⟨b, o, none⟩) dLen dCap, .slice (some a) sLen sCap]).run P w = .ok (goInt k) (w.setCells b o cs) := by
 have hl := run_loadCells_list (P := P) w a cs hsrc
 have hst := run_storeCells_cells (P := P) b o cs 0 w (by simpa using hc) (by simpa using hf) h1
 cases hq : P.info? elem with
 | none => simp [hq] at hs
 | some i =>
  have hi : i.size = 4 := by simpa [hq] using hs
  simp [Builtin.copy_, run_underlying hu, Builtin.lenOf, Builtin.firstCells, sizeOf, typeInfo, hq, hi, ← hk, ← hn, hl, hst]
theorem run_copy_four0 {P : Program} (w : World) (dT sT ty elem : TypeId) (d a : Option Addr) (dLen dCap sLen sCap : Nat) (hu : P.underlying dT = some (.slice elem)) (hs : (P.info? elem).map (·.size) = some 4) (hn : Nat.min sLen dLen = 0) :
  (Builtin.copy_ #[dT, sT] ty #[.slice d dLen dCap, .slice a sLen sCap]).run P w = .ok (goInt 0) w := by
 cases hq : P.info? elem with
 | none => simp [hq] at hs
 | some i =>
  have hl : ∀ (x : Addr), (loadCells x 0).run P w = .ok #[] w := fun x => by simpa using run_loadCells_list (P := P) w x [] (by simp)
  cases d <;> cases a <;> simp [Builtin.copy_, run_underlying hu, Builtin.lenOf, Builtin.firstCells, sizeOf, typeInfo, hq, hn, storeCells, hl]
def rep (c : Nat) (l : List Ed) : List Ed := (List.replicate c l).flatten
theorem rep_len (c : Nat) (l : List Ed) : (rep c l).length = c * l.length := by
 unfold rep
 simp
theorem rep_succ (c : Nat) (l : List Ed) : rep (c + 1) l = l ++ rep c l := by
 unfold rep
 rw [List.replicate_succ, List.flatten_cons]
def Bh (W : World) (g : Nat) (R : List Ed) (n : Nat) : Prop := ∃ rest : List Value, W.heap[g]? = some (.cells (encL (R.take n) ++ rest).toArray 77 (0, 0)) ∧ n ≤ R.length ∧ (encL (R.take n) ++ rest).length = R.length * 4
theorem Bh.row {W : World} {g base : Nat} {R : List Ed} (h : Bh W g R R.length) (hb : base ≤ g) (hl : R.length ≤ 1000000) : Kd.R k77 77 W base (fun _ => True) (.slice (some ⟨g, 0, none⟩) R.length R.length) R := by
 obtain ⟨rest, h1, h2, h3⟩ := h
 rw [List.take_length] at h1 h3
 have hr : rest = [] := by
  rw [List.length_append, encL_len] at h3
  exact List.eq_nil_of_length_eq_zero (by omega)
 subst hr
 rw [List.append_nil] at h1 h3
 refine ⟨fun _ _ => trivial, encL R, ⟨by rw [encL_len]; rfl, .inr ⟨g, R.length, (encL R).toArray, rfl, hb, h1, Nat.le_refl _, by unfold maxLen; omega, ?_, ?_⟩⟩, encL_reps R⟩
 ·simp [encL_len]
  rfl
 ·show (encL R).toArray.toList.take (R.length * 4) = encL R
  rw [List.take_of_length_le (by simp [encL_len])]
theorem rep_add (a b : Nat) (l : List Ed) : rep (a + b) l = rep a l ++ rep b l := by
 unfold rep
 rw [← List.replicate_append_replicate, List.flatten_append]
theorem rep_step {c a k : Nat} {l : List Ed} (ha : a ≤ c) (hk : a * l.length + k ≤ (rep c l).length) : (rep c l).take (a * l.length) ++ (rep c l).take k = (rep c l).take (a * l.length + k) := by
 have e1 : rep c l = rep a l ++ rep (c - a) l := by rw [← rep_add]; congr 1; omega
 have e2 : rep c l = rep (c - a) l ++ rep a l := by rw [← rep_add]; congr 1; omega
 rw [rep_len] at hk
 have hla := rep_len a l
 have hlb := rep_len (c - a) l
 have hle : k ≤ (rep (c - a) l).length := by
  rw [hlb, Nat.sub_mul]
  omega
 have t1 : (rep c l).take (a * l.length) = rep a l := by
  rw [e1, List.take_append_of_le_length (by omega), List.take_of_length_le (by omega)]
 have t2 : (rep c l).take k = (rep (c - a) l).take k := by
  rw [e2, List.take_append_of_le_length hle]
 have t3 : (rep c l).take (a * l.length + k) = rep a l ++ (rep (c - a) l).take k := by
  rw [e1, ← hla, List.take_length_add_append]
 rw [t1, t2, t3]
theorem repmul_f (m c : Int) (h0 : 0 ≤ m) (h1 : m ≤ 1000) (h2 : 0 ≤ c) (h3 : c ≤ 1000) : bits_Mul.f m c = some (0, m * c) := by
 have hp : 0 ≤ m * c ∧ m * c ≤ 1000000 := ⟨Int.mul_nonneg h0 h2, by have := Int.mul_le_mul h1 h3 h2 (by decide); omega⟩
 have e1 : m / 4294967296 = 0 := by omega
 have e2 : c / 4294967296 = 0 := by omega
 have e3 : m % 4294967296 = m := by omega
 have e4 : c % 4294967296 = c := by omega
 have e5 : IntKind.u64.wrap (m * c) = m * c := IntWalk.u64_in _ ⟨hp.1, by omega⟩
 have e6 : m * c / 4294967296 = 0 := by omega
 have e7 : IntKind.u64.wrap 0 = 0 := by decide
 unfold bits_Mul.f bits_Mul64.f
 rw [and_low32 m h0 (by omega), and_low32 c h2 (by omega)]
 simp only [e1, e2, e3, e4, Int.zero_mul, Int.mul_zero, e5, e6, e7, Int.add_zero, Int.zero_ediv, Option.bind_some]
 rw [and_low32 0 (by decide) (by decide)]
 simp only [Int.zero_emod, Int.add_zero, e7, Int.zero_ediv]
def zC4 : Array Value := #[.int .i64 0, .int .i64 0, .int .i64 0, .int .i64 0]
theorem mk4 (n : Nat) (w : World) (hn : n ≤ 100000) : Sem.run Try.prog (Instr.makeSlice 22 (.int .i64 (n : Int)) (.int .i64 (n : Int))) w = .ok (.slice (some ⟨w.heap.size, 0, none⟩) n n) (w.alloc (.cells (madeCells zC4 (n * 4)) 77)) := by
 obtain ⟨i0, hi, hzz⟩ := Option.map_eq_some_iff.1 (show (Try.prog.info? 77).map (fun i => (i.zero, i.size, i.bytes)) = some (some (.agg #[(.int .i64 0), (.int .i64 0), (.int .i64 0), (.int .i64 0)]), 4, 32) from info77)
 simp only [Prod.mk.injEq] at hzz
 have h := Go.run_make (P := Try.prog) w 22 77 i0 (.agg #[(.int .i64 0), (.int .i64 0), (.int .i64 0), (.int .i64 0)]) Try.underlying22 hi hzz.1 .i64 .i64 (n : Int) (n : Int) (by omega) (by omega) (by rw [hzz.2.2]; omega) (by omega)
 rw [hzz.2.1] at h
 simpa [Value.cells, zC4] using h
theorem Bh.start (W : World) (R : List Ed) : Bh (W.alloc (.cells (madeCells zC4 (R.length * 4)) 77)) W.heap.size R 0 := by
 refine ⟨(madeCells zC4 (R.length * 4)).toList, ?_, Nat.zero_le _, ?_⟩
 ·have := blk_new W (.cells (madeCells zC4 (R.length * 4)) 77 (0, 0))
  simpa [encL] using this
 ·simp [encL, size_madeCells]
theorem Bh.lay {W : World} {g n k : Nat} {R S : List Ed} (h : Bh W g R n) (hk : n + k ≤ R.length) (hS : S.length = k) (hR : R.take n ++ S = R.take (n + k)) : Bh (W.setCells g (n * 4) (encL S)) g R (n + k) ∧ (∀ j, j < (encL S).length → (W.cell? ⟨g, n * 4 + j, none⟩).isSome = true) ∧ (∀ j, j < (encL S).length → W.frozen? ⟨g, n * 4 + j, none⟩ = false) := by
 obtain ⟨rest, h1, h2, h3⟩ := h
 have hl : (encL (R.take n)).length = n * 4 := by rw [encL_len, List.length_take]; congr 1; omega
 have hs : (encL S).length = k * 4 := by rw [encL_len, hS]
 rw [List.length_append, hl] at h3
 have hsz : n * 4 + (encL S).length ≤ (encL (R.take n) ++ rest).toArray.size := by
  rw [hs]
  simp only [List.size_toArray, List.length_append, hl]
  omega
 refine ⟨?_, fun j hj => ?_, fun j _ => blk_frozen h1 _⟩
 ·obtain ⟨cur', c1, c2, c3⟩ := setCells_row (encL S) (n * 4) W _ h1 hsz
  have e1 : (encL (R.take n) ++ rest).toArray.toList = encL (R.take n) ++ rest := rfl
  rw [e1] at c3
  refine ⟨rest.drop (k * 4), ?_, hk, ?_⟩
  ·rw [c1]
   congr 2
   rw [← hR, encL_app, ← Array.toList_inj, c3]
   rw [List.take_append_of_le_length (by omega), List.take_of_length_le (by omega), hs]
   rw [show n * 4 + k * 4 = (encL (R.take n)).length + k * 4 by rw [hl], List.drop_length_add_append]
  ·rw [← hR, encL_app]
   simp only [List.length_append, hl, hs, List.length_drop]
   omega
 ·have hlt : n * 4 + j < (encL (R.take n) ++ rest).length := by
   rw [List.length_append, hl]
   rw [hs] at hj
   omega
  rw [blk_cell h1, List.getElem?_toArray, List.getElem?_eq_getElem hlt]
  rfl
theorem src_at {W : World} {ad : Addr} {A : Option Addr} {l : List Ed} (hA : A = some ad) (h : Kd.C k77 W A l.length l) : ∀ j v, (encL l)[j]? = some v → W.cell? (ad.add j) = some v := by
 intro j v hj
 obtain ⟨p, h1, h2⟩ := encL_at l j v hj
 have hpos : 0 < l.length := Nat.lt_of_le_of_lt (Nat.zero_le _) (List.getElem?_eq_some_iff.1 h1).1
 obtain ⟨ad', e, hc⟩ := h.2.2 hpos
 obtain rfl : ad = ad' := Option.some.inj (hA.symm.trans e)
 obtain ⟨c, hs, hK, hcell⟩ := hc _ p h1
 obtain rfl := k77_open hK
 have h3 := hcell (j % 4) v h2
 have e4 : j / 4 * (k77).sz + j % 4 = j := Nat.div_add_mod' j 4
 rwa [e4] at h3
theorem Bh.src {W : World} {g n k : Nat} {R : List Ed} (h : Bh W g R n) (hk : k ≤ n) : ∀ j v, (encL (R.take k))[j]? = some v → W.cell? ((⟨g, 0, none⟩ : Addr).add j) = some v := by
 obtain ⟨rest, h1, h2, h3⟩ := h
 intro j v hj
 rw [add_plain, blk_cell h1, List.getElem?_toArray]
 have e : R.take n = R.take k ++ (R.take n).drop k := by
  rw [show R.take k = (R.take n).take k by rw [List.take_take]; congr 1; omega]
  exact (List.take_append_drop k (R.take n)).symm
 have hlt := (List.getElem?_eq_some_iff.1 hj).1
 rw [e, encL_app, List.append_assoc, List.getElem?_append_left hlt]
 exact hj
set_option maxHeartbeats 800000 in
set_option maxRecDepth 100000 in
theorem repeat_n (A0 : Option Addr) (c0 : Nat) (l : List Ed) (c : Int) (w : World) (hr : Kd.C k77 w A0 l.length l) (hl : l.length ≤ 100) (h0 : 0 ≤ c) (h1 : c ≤ 1000) :
  Calls Try.prog 100 #[.slice A0 l.length c0, .int .i64 c] w (LP w (rep c.toNat l)) := by
 have hu := Try.underlying77
 have HG := Aside0.mk hr
 have HL := Aside0.mk (And.intro hl (And.intro h0 h1))
 have hlen : ((rep c.toNat l).length : Int) = (l.length : Int) * c := by
  rw [rep_len, Int.natCast_mul, Int.mul_comm]
  congr 1
  omega
 have hN : (rep c.toNat l).length ≤ 100000 := by
  have := Int.mul_le_mul (show (l.length : Int) ≤ 100 by omega) h1 h0 (by decide)
  omega
 have HM := Aside0.mk (show bits_Mul.f (l.length : Int) c = some (0, ((rep c.toNat l).length : Int)) by rw [hlen]; exact repmul_f _ _ (by omega) (by omega) h0 (by omega))
 have hc : decide (c < 0) = false := decide_eq_false (by omega)
 have HR := Aside0.mk (show rep c.toNat l = rep c.toNat l from rfl)
 have HLen := Aside0.mk (rep_len c.toNat l)
 generalize hRR : rep c.toNat l = R at HM HLen hN ⊢
 have HRR := Aside0.mk hRR
 have hg1 : decide ((R.length : Int) > 9223372036854775807) = false := decide_eq_false (by omega)
 have hw1 : wrap64 (R.length : Int) = R.length := w64 (by omega) (by omega)
 have hwm : IntKind.u64.wrap (l.length : Int) = l.length := IntWalk.u64_in _ ⟨by omega, by omega⟩
 have hwc : IntKind.u64.wrap c = c := IntWalk.u64_in _ ⟨by omega, by omega⟩
 clear hr hl h1 hlen hRR
 go_enter Try.func100, Try.ntmps100
 go_wp2_with fail
 have HM2 := Aside0.mk (bits_Mul.calls (l.length : Int) c 0 (R.length : Int) w HM.out)
 refine HM2.out.mono ?_
 rintro e w' ⟨rfl, ⟨nd, rfl⟩⟩
 generalize hW : World.drewN w nd = W
 have HB := Aside0.mk (show Below w.heap.size w W by rw [← hW]; exact pw_below_drewN (Below.refl _ _) nd)
 clear hW
 have hmk := mk4 R.length W hN
 have HS := Aside0.mk (And.intro (Bh.start W R) (HB.out.trans ((below_alloc (Below.refl W.heap.size W) (.cells (madeCells zC4 (R.length * 4)) 77 (0, 0))).mono HB.out.size)))
 go_wp2_with fail
 have hgw : w.heap.size ≤ W.heap.size := HB.out.size
 generalize W.heap.size = g at *
 have hcopy : ∃ (n a : Nat) (W2 : World), Sem.run Try.prog (Builtin.copy_ #[22, 22] 3 #[.slice (some ⟨g, 0, none⟩) R.length R.length, .slice A0 l.length c0]) (W.alloc (.cells (madeCells zC4 (R.length * 4)) 77)) = .ok (.int .i64 (n : Int)) W2 ∧ (n = a * l.length ∧ a ≤ c.toNat ∧ n ≤ R.length ∧ (R.length = 0 ∨ 1 ≤ n)) ∧ Bh W2 g R n ∧ Below w.heap.size w W2 := by
  by_cases hz : R.length = 0
  ·exact ⟨0, 0, _, run_copy_four0 _ _ _ _ 77 _ _ _ _ _ _ Try.underlying22 (by kernel_rfl) (by rw [hz]; exact Nat.min_zero _), ⟨by simp, by omega, by omega, .inl hz⟩, HS.out.1, HS.out.2⟩
  ·have hRl := HLen.out
   have hlp : 0 < l.length := by
    refine Nat.pos_of_ne_zero fun h => hz ?_
    rw [hRl, h, Nat.mul_zero]
   have hcp : 1 ≤ c.toNat := by
    refine Nat.pos_of_ne_zero fun h => hz ?_
    rw [hRl, h, Nat.zero_mul]
   have hle : l.length ≤ R.length := by
    rw [hRl]
    exact Nat.le_mul_of_pos_left _ hcp
   have htk : R.take l.length = l := by
    rw [← HRR.out, show c.toNat = (c.toNat - 1) + 1 by omega, rep_succ, List.take_left]
   obtain ⟨ad, e, _⟩ := HG.out.2.2 hlp
   have hlay := Bh.lay (n := 0) (k := l.length) (S := l) HS.out.1 (by omega) rfl (by rw [List.take_zero, List.nil_append, Nat.zero_add, htk])
   simp only [Nat.zero_mul, Nat.zero_add] at hlay
   subst e
   have hsrc := src_at rfl (Kd.C_below HG.out HS.out.2)
   refine ⟨l.length, 1, _, run_copy_four _ _ _ _ 77 g 0 _ _ ad _ _ (encL l) l.length Try.underlying22 (by kernel_rfl) (by simp only [Nat.min_def]; split <;> omega) (encL_len l) hsrc (by simpa using hlay.2.1) (by simpa using hlay.2.2) (encL_one l), ⟨by omega, hcp, hle, .inr hlp⟩, hlay.1, ?_⟩
   have hset : ∀ (vs : List Value) (o : Nat) (V : World), Below w.heap.size w V → Below w.heap.size w (V.setCells g o vs) := by
    intro vs
    induction vs with
    | nil => intro o V h; exact h
    | cons v t ih => intro o V h; exact ih (o + 1) _ (h.setCell hgw v)
   exact hset _ _ _ HS.out.2
 obtain ⟨n0, a0, W2, hcp, hn0, hB2⟩ := hcopy
 have HN := Aside0.mk (And.intro hn0 hB2)
 clear hn0 hB2 HS HB hmk HM2 HM
 generalize World.alloc W _ = W1 at *
 rw [hcp]
 clear hcp
 go_wp2_with fail
 go_loopg [8] R.length (fun kq v8 w' => ∃ n a : Nat, v8 = .int .i64 (n : Int) ∧ Aside0 (n = a * l.length ∧ a ≤ c.toNat ∧ n ≤ R.length ∧ R.length ≤ n + kq ∧ (R.length = 0 ∨ 1 ≤ n)) ∧ Aside0 (Bh w' g R n ∧ Below w.heap.size w w'))
 case atStart => exact ⟨n0, a0, rfl, ⟨HN.out.1.1, HN.out.1.2.1, HN.out.1.2.2.1, by omega, HN.out.1.2.2.2⟩, ⟨HN.out.2⟩⟩
 case round =>
  obtain ⟨n, a, rfl, hn, hB⟩ := hrel
  by_cases hlt : n < R.length
  ·have hlb : decide ((n : Int) < (R.length : Int)) = true := decide_eq_true (by omega)
   go_wp2_with fail
   have hb0 : Below wr.heap.size wr wr.drew := below_drew' (Below.refl _ _)
   have hK : ∃ k : Nat, k = Nat.min n (R.length - n) := ⟨_, rfl⟩
   obtain ⟨k, hk⟩ := hK
   have hkn : k ≤ n ∧ k ≤ R.length - n ∧ (k = n ∨ k = R.length - n) ∧ 1 ≤ k := by
    have := hn.out.2.2.2.2
    have e : k = if n ≤ R.length - n then n else R.length - n := hk
    split at e <;> omega
   have hHB : Bh wr.drew g R n := by
    obtain ⟨rest, e1, e2, e3⟩ := hB.out.1
    exact ⟨rest, blk_below e1 hb0, e2, e3⟩
   have hR2 : R.take n ++ R.take k = R.take (n + k) := by
    have h1 := hn.out.1
    have h2 := rep_step (c := c.toNat) (a := a) (k := k) (l := l) hn.out.2.1 (by rw [HRR.out, ← h1]; omega)
    rw [HRR.out, ← h1] at h2
    exact h2
   have hlay := Bh.lay (n := n) (k := k) (S := R.take k) hHB (by omega) (by rw [List.length_take]; omega) hR2
   have hcp : Sem.run Try.prog (Builtin.copy_ #[22, 22] 3 #[.slice (some ⟨g, n * 4, none⟩) (R.length - n) (R.length - n), .slice (some ⟨g, 0, none⟩) n R.length]) wr.drew = .ok (.int .i64 (k : Int)) (wr.drew.setCells g (n * 4) (encL (R.take k))) :=
    run_copy_four _ _ _ _ 77 g (n * 4) _ _ _ _ _ (encL (R.take k)) k Try.underlying22 (by kernel_rfl) hk (by rw [encL_len, List.length_take]; congr 1; omega) (Bh.src hHB hkn.1) hlay.2.1 hlay.2.2 (encL_one _)
   have hset : ∀ (vs : List Value) (o : Nat) (V : World), Below w.heap.size w V → Below w.heap.size w (V.setCells g o vs) := by
    intro vs
    induction vs with
    | nil => intro o V h; exact h
    | cons v t ih => intro o V h; exact ih (o + 1) _ (h.setCell hgw v)
   have H9 := Aside0.mk (And.intro hlay.1 (hset (encL (R.take k)) (n * 4) _ (hB.out.2.trans (hb0.mono hB.out.2.size))))
   have HK := Aside0.mk (And.intro hkn hk)
   have hwn : wrap64 ((n : Int) + (k : Int)) = ((n + k : Nat) : Int) := by rw [w64 (by omega) (by omega)]; omega
   have hle := eq_true hn.out.2.2.1
   have hne := eq_false (Nat.ne_of_gt hlt)
   clear hk hkn hHB hR2 hlay hset
   refine start_ (n := 10) (S := fun w' => True) (ds := []) (bs 10 0) (by kernel_rfl) rfl rfl trivial (fun hHeld => ?_)
   refine zP 0 38 10 1 ?_
   refine zP 1 39 10 3 ?_
   refine zP 2 40 10 7 ?_
   refine zP 3 41 10 15 ?_
   refine zP 4 42 10 31 ?_
   refine zP 5 43 10 63 ?_
   refine zP 6 44 10 127 ?_
   refine zN 7 (some 45) 10 255 (fun K hK => ?_)
   refine value_ (v := .int .i64 (k : Int)) (w1 := wr.drew.setCells g (n * 4) (encL (R.take k))) (by rfl) rfl ?_ ?_
   ·go_simp
   refine hK.out _ _ trivial (fun hHeld => ?_)
   clear hK K
   refine zM 45 ?_
   refine zP 8 46 10 511 ?_
   refine zP 9 8 10 1023 ?_
   refine done_ (by kernel_rfl) ?_
   clear hcp
   generalize wr.drew.setCells g (n * 4) (encL (R.take k)) = W9 at *
   go_wp2_with fail
   go_roundg (gk - 1)
   case measure => have := hn.out; omega
   case rel =>
    have h1 := hn.out
    have h2 := HK.out.1
    rcases h2.2.2.1 with h3 | h3
    ·refine ⟨n + k, a + a, by rw [Int.natCast_add], ⟨?_, ?_, by omega, by omega, by omega⟩, ⟨H9.out⟩⟩
     ·rw [Nat.add_mul, ← h1.1, h3]
     ·have hl := HLen.out
      have h4 : (a + a) * l.length ≤ c.toNat * l.length := by rw [Nat.add_mul, ← h1.1]; omega
      refine Nat.le_of_mul_le_mul_right h4 (Nat.pos_of_ne_zero fun h => ?_)
      have h5 := h1.1
      rw [h, Nat.mul_zero] at h5
      omega
    ·refine ⟨n + k, c.toNat, by rw [Int.natCast_add], ⟨?_, Nat.le_refl _, by omega, by omega, by omega⟩, ⟨H9.out⟩⟩
     have := HLen.out
     omega
  ·have hlb : decide ((n : Int) < (R.length : Int)) = false := decide_eq_false (by omega)
   have hne : n = R.length := by have := hn.out; omega
   subst hne
   have hrow := Aside0.mk (Bh.row (base := w.heap.size) hB.out.1 hgw (by omega))
   go_wp2_with fail
   go_ret
   exact ⟨_, rfl, hrow.out, hB.out.2⟩
def repV (ms ts n : Int) (l : List Ed) : List Ed × Int := if chk l ms ts = 0 then (if n < 0 ∨ 100 < n then ([], 1) else nrmV ms ts (rep n.toNat l)) else ([], chk l ms ts)
theorem rep_mem {c : Nat} {l : List Ed} : ∀ x ∈ rep c l, x ∈ l := by
 intro x hx
 unfold rep at hx
 obtain ⟨y, hy, h⟩ := List.mem_flatten.1 hx
 rw [(List.mem_replicate.1 hy).2] at h
 exact h
theorem rep_le {n : Int} {l : List Ed} (hl : l.length ≤ 20) (h0 : 0 ≤ n) (h1 : n ≤ 100) : (rep n.toNat l).length ≤ 2000 := by
 rw [rep_len]
 exact Nat.mul_le_mul (show n.toNat ≤ 100 by omega) hl
set_option maxHeartbeats 8000000 in
set_option maxRecDepth 100000 in
theorem erepeat_n (A0 : Option Addr) (c0 : Nat) (l0 : List Ed) (ms ts y : Int) (w : World) (h0 : Kd.C k77 w A0 l0.length l0) (hc0 : l0.length ≤ c0) :
  Calls Try.prog 50 #[.slice A0 l0.length c0, .int .i64 ms, .int .i64 ts, .int .i64 y] w (TP w (repV ms ts y l0)) := by
 have hu := Try.underlying79
 have HG := Aside0.mk (And.intro h0 hc0)
 have HV := Aside0.mk (show repV ms ts y l0 = if chk l0 ms ts = 0 then (if y < 0 ∨ 100 < y then ([], 1) else nrmV ms ts (rep y.toNat l0)) else ([], chk l0 ms ts) from rfl)
 have HK := Aside0.mk (fun h : chk l0 ms ts = 0 => chk_ok.1 h)
 generalize repV ms ts y l0 = V at *
 have HC := Aside0.mk (show ∀ W, Kd.C k77 W A0 l0.length l0 → Calls Try.prog 24 #[.slice A0 l0.length c0, .int .i64 ms, .int .i64 ts] W (ValP W (.int .i64 (chk l0 ms ts))) from fun W hr => check_n A0 c0 l0 ms ts W hr hc0)
 generalize chk l0 ms ts = C at *
 clear h0 hc0
 go_enter Try.func50, Try.ntmps50
 go_wp2_with fail
 refine (HC.out w HG.out.1).mono ?_
 rintro e w2 ⟨rfl, hb2⟩
 have HB2 := Aside0.mk hb2
 clear hb2
 by_cases hz : C = 0
 case neg =>
  have HV2 := Aside0.mk (show V = ([], C) by rw [HV.out, if_neg hz])
  clear HV HK
  go_wp2_with fail
  go_ret2
  rw [HV2.out]
  exact ⟨_, rfl, Kd.R_nil _ _ _ _ _, HB2.out⟩
 subst hz
 have HV2 := Aside0.mk (show V = if y < 0 ∨ 100 < y then ([], 1) else nrmV ms ts (rep y.toNat l0) by rw [HV.out, if_pos rfl])
 have HK2 := Aside0.mk (HK.out rfl)
 clear HV HK HC
 by_cases y1 : y < 0
 ·have HV3 := Aside0.mk (show V = ([], 1) by rw [HV2.out, if_pos (.inl y1)])
  have b1 : decide (y < 0) = true := decide_eq_true y1
  clear HV2
  go_wp2_with fail
  go_ret2
  rw [HV3.out]
  exact ⟨_, rfl, Kd.R_nil _ _ _ _ _, HB2.out⟩
 have b1 : decide (y < 0) = false := decide_eq_false y1
 by_cases y2 : y > 100
 ·have HV3 := Aside0.mk (show V = ([], 1) by rw [HV2.out, if_pos (.inr y2)])
  have b2 : decide (y > 100) = true := decide_eq_true y2
  clear HV2
  go_wp2_with fail
  go_ret2
  rw [HV3.out]
  exact ⟨_, rfl, Kd.R_nil _ _ _ _ _, HB2.out⟩
 have b2 : decide (y > 100) = false := decide_eq_false y2
 have HV3 := Aside0.mk (show V = nrmV ms ts (rep y.toNat l0) by rw [HV2.out, if_neg (by omega)])
 have HQ := Aside0.mk (show Ck ms ts ∧ (∀ x ∈ rep y.toNat l0, Vd x) ∧ (rep y.toNat l0).length ≤ 1000000000 by
  refine ⟨HK2.out.1, fun x hx => HK2.out.2.2.1 x (rep_mem x hx), ?_⟩
  have := rep_le (n := y) HK2.out.2.1 (by omega) (by omega)
  omega)
 have HY := Aside0.mk (show l0.length ≤ 100 ∧ 0 ≤ y ∧ y ≤ 1000 by have := HK2.out.2.1; omega)
 clear HV2 HK2
 go_wp2_with fail
 refine (repeat_n A0 c0 l0 y w2 (Kd.C_below HG.out.1 HB2.out) HY.out.1 HY.out.2.1 HY.out.2.2).mono ?_
 rintro e w3 ⟨v, rfl, hr3, hb3⟩
 have HB3 := Aside0.mk (And.intro hr3 (HB2.out.trans (hb3.mono HB2.out.size)))
 obtain ⟨A3, c3, rfl⟩ := Kd.R_slice hr3
 clear hr3 hb3
 generalize rep y.toNat l0 = L at *
 go_wp2_with fail
 refine (normal_n HQ.out.1 A3 c3 L HQ.out.2.1 HQ.out.2.2 w3 (Kd.R_reads' HB3.out.1).2.2 (Kd.R_reads' HB3.out.1).2.1).mono ?_
 rintro e w4 ⟨v4, rfl, hr4, hb4⟩
 have H4 := Aside0.mk (And.intro (Kd.R_lower hr4 HB3.out.2.size) (HB3.out.2.trans (hb4.mono HB3.out.2.size)))
 obtain ⟨A4, c4, rfl⟩ := Kd.R_slice hr4
 clear hr4 hb4
 rw [← HV3.out] at H4 ⊢
 go_wp2_with fail
 go_ret2
 exact ⟨_, rfl, H4.out.1, H4.out.2⟩
end Go.Proofs.Ytpbhepdgamoiaaa.Rp
namespace Go.Proofs.Ytpbhepdgamoiaaa.E
open Go.RowKit Go Go.Proofs.YtpbhepdgamoiaaaW.PrintWords Go.Proofs.YtpbhepdgamoiaaaW.PrintLast Go.Proofs.YtpbhepdgamoiaaaW.PrintMore Go.Proofs.Ytpbhepdgamoiaaa.Pe Go.Proofs.Ytpbhepdgamoiaaa.Rp
def edit_Repeat.f (l0 : List (S77)) (a1 : Int) (a2 : Int) (a3 : Int) : Option ((List (S77)) × Int) := some (repV a1 a2 a3 l0)
theorem edit_Repeat.calls (A0 : Option Addr) (c0 : Nat) (l0 : List (S77)) (a1 : Int) (a2 : Int) (a3 : Int) (r1 : List (S77)) (r2 : Int) (w : World) (hr0 : Kd.C k77 w A0 l0.length l0) (hc0 : l0.length ≤ c0) (h : edit_Repeat.f l0 a1 a2 a3 = some (r1, r2)) :
  Calls Try.prog 50 #[.slice A0 l0.length c0, .int .i64 a1, .int .i64 a2, .int .i64 a3] w fun e w' => ∃ v0_ : Value, e = .returned (.tuple #[v0_, .int .i64 r2]) ∧ Kd.R k77 77 w' w.heap.size (fun _ => True) v0_ r1 ∧ Below w.heap.size w w' := by
 have hV : repV a1 a2 a3 l0 = (r1, r2) := Option.some.inj h
 have := erepeat_n A0 c0 l0 a1 a2 a3 w hr0 hc0
 rw [hV] at this
 exact this
end Go.Proofs.Ytpbhepdgamoiaaa.E

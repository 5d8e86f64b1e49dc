/-
  ExactBase: for every input the law returns true. The reference's Base, and the walk of ExactBase. The reference's isScale. The least common scale of numbers: plain law, and the walks of exact.Base and of the reference's Base.
-/
import Derived.Test.YtdginjpppgfdaaaKc
import Derived.Test.YtdginjpppgfdaaaRows
import Derived.WalkKit
import Derived.ProofKit
import Derived.OpenShut
import Derived.ChangeOld
import Derived.Below
import Derived.SizedLaws
import Derived.Carry
import Derived.Test.YtdginjpppgfdaaaWSized
namespace Go.Proofs.Ytdginjpppgfdaaa.Bs
open Go.RowKit Go Go.Proofs.YtdginjpppgfdaaaW.PrintWords Go.Proofs.YtdginjpppgfdaaaW.PrintLast Go.Proofs.YtdginjpppgfdaaaW.PrintMore Go.Proofs.Ytdginjpppgfdaaa.Ml Go.Proofs.Ytdginjpppgfdaaa.Mn Go.Proofs.Ytdginjpppgfdaaa.Nd Go.Proofs.Ytdginjpppgfdaaa.P Go.Proofs.Ytdginjpppgfdaaa.Ea Go.Proofs.Ytdginjpppgfdaaa.Eb Go.Proofs.Ytdginjpppgfdaaa.Ee
set_option linter.unusedVariables false
set_option linter.unusedSimpArgs false

/-- The least common multiple from a number on, while it stays a scale. -/
def lbs : Int → List Int → Int × Int
  | b, [] => (b, 0)
  | b, n :: r => if 1000000 < b * (n / (Int.gcd b n : Int)) then (0, 2) else lbs (b * (n / (Int.gcd b n : Int))) r
def bBase (l : List Int) : Int × Int := if l.all isScale then lbs 1 l else (0, 1)
theorem all_take {p : Int → Bool} {l : List Int} {i : Nat} (hi : i < l.length) : (l.take (i + 1)).all p = ((l.take i).all p && p (l.getD i 0)) := by
  rw [List.take_succ_eq_append_getElem hi, List.all_append]
  simp [List.getD_eq_getElem?_getD, List.getElem?_eq_getElem hi]
theorem all_no {p : Int → Bool} {l : List Int} {i : Nat} (hi : i < l.length) (h : p (l.getD i 0) = false) : l.all p = false := by
  rw [List.all_eq_false]
  refine ⟨l[i], List.getElem_mem hi, ?_⟩
  rw [List.getD_eq_getElem?_getD, List.getElem?_eq_getElem hi] at h
  simpa using h
theorem all_at {p : Int → Bool} {l : List Int} (h : l.all p = true) {i : Nat} (hi : i < l.length) : p (l.getD i 0) = true := by
  rw [List.all_eq_true] at h
  rw [List.getD_eq_getElem?_getD, List.getElem?_eq_getElem hi]
  exact h _ (List.getElem_mem hi)
theorem lbs_drop {l : List Int} {i : Nat} (b : Int) (hi : i < l.length) : lbs b (l.drop i) = if 1000000 < b * (l.getD i 0 / (Int.gcd b (l.getD i 0) : Int)) then (0, 2) else lbs (b * (l.getD i 0 / (Int.gcd b (l.getD i 0) : Int))) (l.drop (i + 1)) := by
  rw [List.drop_eq_getElem_cons hi]
  simp only [lbs, List.getD_eq_getElem?_getD, List.getElem?_eq_getElem hi, Option.getD_some]
theorem lbs_end {l : List Int} {i : Nat} (b : Int) (hi : l.length ≤ i) : lbs b (l.drop i) = (b, 0) := by
  rw [List.drop_of_length_le hi]
  rfl
theorem dvd_cop' {d n m : Int} (h : d ∣ n * m) (hg : Int.gcd d n = 1) : d ∣ m := by
  have h1 := Int.natAbs_dvd_natAbs.2 h
  rw [Int.natAbs_mul] at h1
  exact Int.natAbs_dvd_natAbs.1 (Nat.Coprime.dvd_of_dvd_mul_left (show Nat.Coprime d.natAbs n.natAbs from hg) h1)
/-- What the greatest common divisor leaves of a scale. -/
theorem gq {b s : Int} (hb : 1 ≤ b) (hs : 1 ≤ s) : 1 ≤ (Int.gcd b s : Int) ∧ 1 ≤ s / (Int.gcd b s : Int) ∧ s / (Int.gcd b s : Int) ≤ s ∧ s ∣ b * (s / (Int.gcd b s : Int)) ∧ ∀ j, s ∣ b * j → (s / (Int.gcd b s : Int)) ∣ j := by
  have hg : 1 ≤ (Int.gcd b s : Int) := by
    have := Int.gcd_pos_of_ne_zero_right b (show s ≠ 0 by omega)
    omega
  have e1 : b = b / (Int.gcd b s : Int) * (Int.gcd b s : Int) := (Int.ediv_mul_cancel (Int.gcd_dvd_left b s)).symm
  have e2 : s = s / (Int.gcd b s : Int) * (Int.gcd b s : Int) := (Int.ediv_mul_cancel (Int.gcd_dvd_right b s)).symm
  have hc : Int.gcd (b / (Int.gcd b s : Int)) (s / (Int.gcd b s : Int)) = 1 := Int.gcd_ediv_gcd_ediv_gcd_of_ne_zero_right (by omega)
  generalize hG : (Int.gcd b s : Int) = g at *
  generalize b / g = b' at *
  generalize s / g = q at *
  have q0 : 1 ≤ q := by
    refine Int.le_of_not_gt fun h0 => ?_
    have : q * g ≤ 0 * g := Int.mul_le_mul_of_nonneg_right (by omega) (by omega)
    omega
  refine ⟨hg, q0, ?_, ⟨b', by rw [e1]; clear hG hc; grind⟩, fun j hj => ?_⟩
  · have : q * 1 ≤ q * g := Int.mul_le_mul_of_nonneg_left hg (by omega)
    omega
  · have h1 : q * g ∣ b' * j * g := by
      have e3 : b * j = b' * j * g := by rw [e1]; clear hG hc; grind
      rw [← e2, ← e3]
      exact hj
    have h2 : q ∣ b' * j := Int.dvd_of_mul_dvd_mul_right (by omega) h1
    exact dvd_cop' h2 (by rw [Int.gcd_comm]; exact hc)
/-- The multiples of a scale in turn: none below the least common one is a multiple of both. -/
theorem step_no {b s j : Int} (hb : 1 ≤ b) (hs : 1 ≤ s) (hj : j ≤ s / (Int.gcd b s : Int)) (hd : ¬ (b * j) % s = 0) : j + 1 ≤ s / (Int.gcd b s : Int) := by
  obtain ⟨_, _, _, h4, _⟩ := gq hb hs
  rcases Int.lt_or_le j (s / (Int.gcd b s : Int)) with h | h
  · omega
  · exfalso
    have : j = s / (Int.gcd b s : Int) := by omega
    rw [this] at hd
    exact hd (Int.emod_eq_zero_of_dvd h4)
theorem step_yes {b s j : Int} (hb : 1 ≤ b) (hs : 1 ≤ s) (h1 : 1 ≤ j) (hj : j ≤ s / (Int.gcd b s : Int)) (hd : (b * j) % s = 0) : j = s / (Int.gcd b s : Int) := by
  obtain ⟨_, _, _, _, h5⟩ := gq hb hs
  have := Int.le_of_dvd (by omega) (h5 j (Int.dvd_of_emod_eq_zero hd))
  omega
theorem isScale_bd' {s : Int} (h : isScale s = true) : 1 ≤ s ∧ s ≤ 1000000 := by unfold isScale at h; simpa using h
set_option maxHeartbeats 1000000 in
theorem notScale_n (n : Int) (w : World) : Calls Try.prog 62 #[.int .i64 n] w (fun e w' => e = .returned (.bool (!isScale n)) ∧ w = w') := by
  go_enter Try.func62, Try.ntmps62
  go_wp2_with fail
  refine (isScale_n n _).mono ?_
  rintro e w2 ⟨rfl, rfl⟩
  go_wp2_with fail
  go_ret
  exact ⟨rfl, rfl⟩
set_option maxHeartbeats 4000000 in
set_option maxRecDepth 100000 in
theorem indexI_n (F : Nat) (p : Int → Bool) (A : Option Addr) (c : Nat) (l : List Int) (w : World) (hc : l.length ≤ c) (hr : Kd.C (Kd.int .i64) w A l.length l) (hn : l.length ≤ 300) (hE : ∀ args w, Sem.run Try.prog (callFunc F args) w = .ok (.enter F args) w)
    (hF : ∀ n w, Calls Try.prog F #[.int .i64 n] w (fun e w' => e = .returned (.bool (!p n)) ∧ w = w')) :
    Calls Try.prog 93 #[.slice A l.length c, .func (.func F) #[] #[]] w (fun e w' => ∃ i : Int, e = .returned (.int .i64 i) ∧ decide (0 ≤ i) = (!l.all p) ∧ w = w') := by
  have HR := Aside0.mk hr
  have HF := Aside0.mk hF
  clear hr hF
  go_enter Try.func93, Try.ntmps93
  go_wp2_with fail
  go_loopg [8] l.length (fun kq v8 w' => ∃ i : Nat, v8 = .int .i64 (i : Int) ∧ Aside0 (i + kq = l.length) ∧ Aside0 ((l.take i).all p = true) ∧ w = w')
  case atStart => exact ⟨0, rfl, ⟨by omega⟩, ⟨rfl⟩, rfl⟩
  case round =>
    obtain ⟨i, rfl, HK, HA, rfl⟩ := hrel
    cases gk with
    | zero =>
      obtain rfl : i = l.length := by have := HK.out; omega
      have hq : l.all p = true := by have := HA.out; rwa [List.take_length] at this
      have HQ := Aside0.mk hq
      clear hq
      go_wp2_with fail
      go_ret
      exact ⟨-1, rfl, by rw [HQ.out]; rfl, rfl⟩
    | succ k1 =>
      have hi : i < l.length := by have := HK.out; omega
      obtain ⟨ada, ea, hac⟩ := mag_cell HR.out (Below.refl _ _) i hi
      cases ea
      have HG := Aside0.mk (And.intro (all_take (p := p) hi) (fun h => all_no (p := p) hi h))
      generalize l.getD i 0 = x at hac HG
      go_wp2_with fail
      refine (HF.out x _).mono ?_
      rintro e w2 ⟨rfl, rfl⟩
      cases hq : p x with
      | false =>
        have HN := Aside0.mk (HG.out.2 hq)
        clear hq
        go_wp2_with fail
        go_ret
        exact ⟨(i : Int), rfl, by rw [HN.out]; simp, rfl⟩
      | true =>
        have HN := Aside0.mk (show (l.take (i + 1)).all p = true by rw [HG.out.1, HA.out, hq]; rfl)
        clear hq
        go_wp2_with fail
        go_roundg k1
        case measure => omega
        case rel => exact ⟨i + 1, by go_num, ⟨by have := HK.out; omega⟩, HN, rfl⟩
theorem hasI_n (F : Nat) (p : Int → Bool) (A : Option Addr) (c : Nat) (l : List Int) (w : World) (hc : l.length ≤ c) (hr : Kd.C (Kd.int .i64) w A l.length l) (hn : l.length ≤ 300) (hE : ∀ args w, Sem.run Try.prog (callFunc F args) w = .ok (.enter F args) w)
    (hF : ∀ n w, Calls Try.prog F #[.int .i64 n] w (fun e w' => e = .returned (.bool (!p n)) ∧ w = w')) :
    Calls Try.prog 61 #[.slice A l.length c, .func (.func F) #[] #[]] w (fun e w' => e = .returned (.bool (!l.all p)) ∧ w = w') := by
  have HI := Aside0.mk (indexI_n F p A c l w hc hr hn hE hF)
  clear hF hr
  go_enter Try.func61, Try.ntmps61
  go_wp2_with fail
  refine HI.out.mono ?_
  rintro e w2 ⟨i, rfl, hi, rfl⟩
  go_wp2_with fail
  go_ret
  exact ⟨ret_b (by first | exact hi | rfl), rfl⟩
def BaP (w : World) (p : Int × Int) (e : Ending) (w' : World) : Prop := e = .returned (.tuple #[.int .i64 p.1, .int .i64 p.2]) ∧ Below w.heap.size w w'
set_option maxHeartbeats 8000000 in
set_option maxRecDepth 100000 in
theorem base_n (A : Option Addr) (c : Nat) (l : List Int) (w : World) (hc : l.length ≤ c) (hr : Kd.C (Kd.int .i64) w A l.length l) (hn : l.length ≤ 300) :
    Calls Try.prog 32 #[.slice A l.length c] w (BaP w (bBase l)) := by
  have hI := hasI_n 62 isScale A c l w hc hr hn (fun _ _ => by go_simp) notScale_n
  have HR := Aside0.mk hr
  clear hr
  cases ha : l.all isScale with
  | false =>
    rw [show bBase l = (0, 1) by unfold bBase; rw [ha]; rfl]
    rw [ha] at hI
    have HI := Aside0.mk hI
    clear hI
    go_enter Try.func32, Try.ntmps32
    go_wp2_with fail
    refine HI.out.mono ?_
    rintro e w2 ⟨rfl, rfl⟩
    go_wp2_with fail
    go_ret2
    exact ⟨rfl, Below.refl _ _⟩
  | true =>
    have hV : bBase l = lbs 1 l := by unfold bBase; rw [ha]; rfl
    rw [ha] at hI
    generalize bBase l = V at *
    have HI := Aside0.mk hI
    have HV := Aside0.mk (And.intro hV (fun (i : Nat) (hi : i < l.length) => all_at ha hi))
    clear hI hV ha
    go_enter Try.func32, Try.ntmps32
    go_wp2_with fail
    refine HI.out.mono ?_
    rintro e w2 ⟨rfl, rfl⟩
    go_wp2_with fail
    go_loopg [4, 11] l.length (fun kq v4 v11 w' => ∃ (b : Int) (i : Nat), v4 = .int .i64 b ∧ v11 = .int .i64 (i : Int) ∧ Aside0 (i + kq = l.length) ∧ Aside0 (1 ≤ b ∧ b ≤ 1000000) ∧ Aside0 (V = lbs b (l.drop i)) ∧ Aside0 (Below w.heap.size w w'))
    case atStart => exact ⟨1, 0, rfl, rfl, ⟨by omega⟩, ⟨by decide, by decide⟩, ⟨HV.out.1⟩, ⟨Below.refl _ _⟩⟩
    case round =>
      obtain ⟨b, i, rfl, rfl, HK, HB, HL, HW⟩ := hrel
      cases gk with
      | zero =>
        obtain rfl : i = l.length := by have := HK.out; omega
        have HE := Aside0.mk (HL.out.trans (lbs_end b (Nat.le_refl _)))
        go_wp2_with fail
        go_ret2
        exact ⟨by rw [HE.out]; rfl, HW.out⟩
      | succ k1 =>
        have hi : i < l.length := by have := HK.out; omega
        obtain ⟨ada, ea, hac⟩ := mag_cell HR.out HW.out i hi
        cases ea
        have hs := isScale_bd' (HV.out.2 i hi)
        have hL := HL.out.trans (lbs_drop b hi)
        have hb := HB.out
        generalize l.getD i 0 = s at hac hs hL
        obtain ⟨g0, g1, g2, _, _⟩ := gq hb.1 hs.1
        obtain ⟨kk, hkk⟩ : ∃ k, exact_gcd.f k b s = some ((Int.gcd b s : Nat) : Int) := by
          obtain ⟨m, rfl⟩ : ∃ m : Nat, s = (m : Int) := ⟨s.toNat, by omega⟩
          exact ⟨m + 2, gcd_f b m (m + 2) (by omega) (by omega) (by omega)⟩
        have hm0 : 0 ≤ b * (s / (Int.gcd b s : Int)) := Int.mul_nonneg (by omega) (by omega)
        have hm2 : 1 ≤ b * (s / (Int.gcd b s : Int)) := by
          have : 1 * (s / (Int.gcd b s : Int)) ≤ b * (s / (Int.gcd b s : Int)) := Int.mul_le_mul_of_nonneg_right hb.1 (by omega)
          omega
        have hm1 : b * (s / (Int.gcd b s : Int)) ≤ 1000000000000 := by
          have h1 : b * (s / (Int.gcd b s : Int)) ≤ 1000000 * (s / (Int.gcd b s : Int)) := Int.mul_le_mul_of_nonneg_right hb.2 (by omega)
          omega
        generalize hG : ((Int.gcd b s : Nat) : Int) = g at *
        generalize hQ : s / g = q at *
        have hw1 : wrap64 (b * q) = b * q := w64 (by omega) (by omega)
        generalize hM : b * q = m at *
        have HL2 := Aside0.mk hL
        have HKK := Aside0.mk hkk
        have HQ := Aside0.mk (And.intro hQ (And.intro hM hw1))
        clear hL hkk hQ hM hw1 hG
        go_wp2_with fail
        refine (exact_gcd.calls kk b s g _ HKK.out).mono ?_
        rintro e w2 ⟨rfl, hd2⟩
        have HW2 := Aside0.mk (HW.out.trans ((Drawn0.below hd2).mono HW.out.size))
        have hQ := HQ.out.1
        have hM := HQ.out.2.1
        have hw1 : wrap64 m = m := HQ.out.2.2
        clear hd2
        by_cases hbig : 1000000 < m
        · have HE := Aside0.mk (show V = (0, 2) by rw [HL2.out, if_pos hbig])
          go_wp2_with fail
          go_ret2
          exact ⟨by rw [HE.out]; rfl, HW2.out⟩
        · have HE := Aside0.mk (show V = lbs m (l.drop (i + 1)) by rw [HL2.out, if_neg hbig])
          have HM := Aside0.mk (show 1 ≤ m ∧ m ≤ 1000000 by omega)
          go_wp2_with fail
          go_roundg k1
          case measure => omega
          case rel => exact ⟨m, i + 1, rfl, by go_num, ⟨by have := HK.out; omega⟩, HM, HE, HW2⟩
end Go.Proofs.Ytdginjpppgfdaaa.Bs

namespace Go.Proofs.Ytdginjpppgfdaaa.Fy
open Go.RowKit Go Go.Proofs.Ytdginjpppgfdaaa.Nd Go.Proofs.Ytdginjpppgfdaaa.Ea
set_option linter.unusedVariables false
set_option linter.unusedSimpArgs false

set_option maxHeartbeats 1000000 in
theorem ryScale_n (s : Int) (w : World) : Calls Try.prog 50 #[.int .i64 s] w (fun e w' => e = .returned (.bool (isScale s)) ∧ w = w') := by
  go_enter Try.func50, Try.ntmps50
  go_wp2
  all_goals
    go_ret
    refine ⟨ret_b ?_, rfl⟩
    unfold isScale
    first | (simp_all; done) | (simp_all; omega) | grind
end Go.Proofs.Ytdginjpppgfdaaa.Fy

namespace Go.Proofs.Ytdginjpppgfdaaa.Br
open Go.RowKit Go Go.Proofs.YtdginjpppgfdaaaW.PrintWords Go.Proofs.YtdginjpppgfdaaaW.PrintLast Go.Proofs.YtdginjpppgfdaaaW.PrintMore Go.Proofs.Ytdginjpppgfdaaa.Ml Go.Proofs.Ytdginjpppgfdaaa.Mn Go.Proofs.Ytdginjpppgfdaaa.Nd Go.Proofs.Ytdginjpppgfdaaa.P Go.Proofs.Ytdginjpppgfdaaa.Ea Go.Proofs.Ytdginjpppgfdaaa.Eb Go.Proofs.Ytdginjpppgfdaaa.Ee Go.Proofs.Ytdginjpppgfdaaa.Bs Go.Proofs.Ytdginjpppgfdaaa.Fy
set_option linter.unusedVariables false
set_option linter.unusedSimpArgs false

set_option maxHeartbeats 16000000 in
set_option maxRecDepth 100000 in
theorem rBase_n (A : Option Addr) (c : Nat) (l : List Int) (w : World) (hc : l.length ≤ c) (hr : Kd.C (Kd.int .i64) w A l.length l) (hn : l.length ≤ 300) :
    Calls Try.prog 33 #[.slice A l.length c] w (BaP w (bBase l)) := by
  have HR := Aside0.mk hr
  have hV : bBase l = if l.all isScale then lbs 1 l else (0, 1) := rfl
  generalize bBase l = V at *
  have HV := Aside0.mk hV
  clear hr hV
  go_enter Try.func33, Try.ntmps33
  go_wp2_with fail
  go_loopg [4] l.length (fun kq v4 w' => ∃ i : Nat, v4 = .int .i64 (i : Int) ∧ Aside0 (i + kq = l.length) ∧ Aside0 ((l.take i).all isScale = true) ∧ w = w')
  case atStart => exact ⟨0, rfl, ⟨by omega⟩, ⟨rfl⟩, rfl⟩
  case round =>
    obtain ⟨i, rfl, HK, HA, rfl⟩ := hrel
    cases gk with
    | succ k1 =>
      have hi : i < l.length := by have := HK.out; omega
      obtain ⟨ada, ea, hac⟩ := mag_cell HR.out (Below.refl _ _) i hi
      cases ea
      have HG := Aside0.mk (And.intro (all_take (p := isScale) hi) (fun h => all_no (p := isScale) hi h))
      generalize l.getD i 0 = x at hac HG
      go_wp2_with fail
      refine (ryScale_n x _).mono ?_
      rintro e w2 ⟨rfl, rfl⟩
      cases hq : isScale x with
      | false =>
        have HN := Aside0.mk (show V = (0, 1) by rw [HV.out, HG.out.2 hq]; rfl)
        clear hq
        go_wp2_with fail
        go_ret2
        exact ⟨by rw [HN.out]; rfl, Below.refl _ _⟩
      | true =>
        have HN := Aside0.mk (show (l.take (i + 1)).all isScale = true by rw [HG.out.1, HA.out, hq]; rfl)
        clear hq
        go_wp2_with fail
        go_roundg k1
        case measure => omega
        case rel => exact ⟨i + 1, by go_num, ⟨by have := HK.out; omega⟩, HN, rfl⟩
    | zero =>
      obtain rfl : i = l.length := by have := HK.out; omega
      have ha : l.all isScale = true := by have := HA.out; rwa [List.take_length] at this
      have HV2 := Aside0.mk (And.intro (show V = lbs 1 l by rw [HV.out, ha]; rfl) (fun (i : Nat) (hi : i < l.length) => all_at ha hi))
      clear ha HV HA HK
      go_wp2_with fail
      go_loopg [5, 6] l.length (fun kq v5 v6 w' => ∃ (b : Int) (i : Nat), v5 = .int .i64 b ∧ v6 = .int .i64 (i : Int) ∧ Aside0 (i + kq = l.length) ∧ Aside0 (1 ≤ b ∧ b ≤ 1000000) ∧ Aside0 (V = lbs b (l.drop i)) ∧ w = w')
      case atStart => exact ⟨1, 0, rfl, rfl, ⟨by omega⟩, ⟨by decide, by decide⟩, ⟨HV2.out.1⟩, rfl⟩
      case round =>
        obtain ⟨b, i, rfl, rfl, HK, HB, HL, rfl⟩ := hrel
        cases gk with
        | zero =>
          obtain rfl : i = l.length := by have := HK.out; omega
          have HE := Aside0.mk (HL.out.trans (lbs_end b (Nat.le_refl _)))
          go_wp2_with fail
          go_ret2
          exact ⟨by rw [HE.out]; rfl, Below.refl _ _⟩
        | succ k1 =>
          have hi : i < l.length := by have := HK.out; omega
          obtain ⟨ada, ea, hac⟩ := mag_cell HR.out (Below.refl _ _) i hi
          cases ea
          have hs := isScale_bd' (HV2.out.2 i hi)
          have hL := HL.out.trans (lbs_drop b hi)
          have hb := HB.out
          generalize l.getD i 0 = s at hac hs hL
          have HG := Aside0.mk (And.intro (gq hb.1 hs.1) hL)
          clear hL
          go_wp2_with fail
          go_loopg [7] 1000000 (fun kq v7 w' => ∃ m j : Int, v7 = .int .i64 m ∧ Aside0 ((m = b * j ∧ 1 ≤ j ∧ j ≤ s / (Int.gcd b s : Int)) ∧ 1 ≤ m ∧ m ≤ 1000000 ∧ 1000000 - m ≤ (kq : Int)) ∧ w = w')
          case atStart => exact ⟨b, 1, rfl, ⟨⟨by omega, by omega, HG.out.1.2.1⟩, by omega, by omega, by omega⟩, rfl⟩
          case round =>
            obtain ⟨m, j, rfl, HJ, rfl⟩ := hrel
            have hm1 : 1 ≤ m := HJ.out.2.1
            have hm2 : m ≤ 1000000 := HJ.out.2.2.1
            by_cases hd : m % s = 0
            · have hj := step_yes hb.1 hs.1 HJ.out.1.2.1 HJ.out.1.2.2 (by rw [← HJ.out.1.1]; exact hd)
              have HE := Aside0.mk (show V = lbs m (l.drop (i + 1)) by rw [HG.out.2, ← hj, ← HJ.out.1.1, if_neg (by omega)])
              have HM := Aside0.mk (show 1 ≤ m ∧ m ≤ 1000000 by omega)
              have hdb : (m % s != 0) = false := by simpa using hd
              clear hd hj
              go_wp2_with fail
              go_roundg k1
              case measure => omega
              case rel => exact ⟨m, i + 1, rfl, by go_num, ⟨by have := HK.out; omega⟩, HM, HE, rfl⟩
            · have hj := step_no hb.1 hs.1 HJ.out.1.2.2 (by rw [← HJ.out.1.1]; exact hd)
              have hmb : b * (j + 1) = m + b := by rw [HJ.out.1.1, Int.mul_add]; omega
              have hdb : (m % s != 0) = true := by simpa using hd
              by_cases hbig : 1000000 < m + b
              · have hge : m + b ≤ b * (s / (Int.gcd b s : Int)) := by rw [← hmb]; exact Int.mul_le_mul_of_nonneg_left hj (by omega)
                have HE := Aside0.mk (show V = (0, 2) by rw [HG.out.2, if_pos (by omega)])
                clear hd hj hmb hge
                go_wp2_with fail
                go_ret2
                exact ⟨by rw [HE.out]; rfl, Below.refl _ _⟩
              · cases gk with
                | zero => exfalso; have := HJ.out.2.2.2; omega
                | succ k2 =>
                  have HN := Aside0.mk (show (m + b = b * (j + 1) ∧ 1 ≤ j + 1 ∧ j + 1 ≤ s / (Int.gcd b s : Int)) ∧ 1 ≤ m + b ∧ m + b ≤ 1000000 ∧ 1000000 - (m + b) ≤ (k2 : Int) from ⟨⟨hmb.symm, by have := HJ.out.1.2.1; omega, hj⟩, by omega, by omega, by have := HJ.out.2.2.2; omega⟩)
                  clear hd hj hmb
                  go_wp2_with fail
                  go_roundg k2
                  case measure => omega
                  case rel => exact ⟨m + b, j + 1, rfl, HN, rfl⟩
theorem bBase_form (l : List Int) : ∃ p q, bBase l = (p, q) := ⟨_, _, rfl⟩
set_option maxHeartbeats 8000000 in
set_option maxRecDepth 100000 in
theorem walk (a : Option Addr) (len cap : Nat) (z : List Int) (w : World) (w0 : (a = none ∧ len = 0 ∧ cap = 0 ∧ z = []) ∨ ∃ x, a = some x ∧ len ≤ cap ∧ cap ≤ maxLen ∧ z.length = cap ∧ (∀ i, i < z.length → w.cell? (x.add i) = some (.int .i64 (z.getD i 0))) ∧ ∀ n ∈ z, (Lit.int .i64 n).wf = true) (y : len * 8 ≤ 140737488351232) :
    Calls Try.prog 8 #[.slice a len cap] w (fun e w' => e = .returned (.bool true) ∧ Below w.heap.size w w') := by
  obtain ⟨l, rfl, hr, hm, hw, hc⟩ := ReadsInt.ofRowC w0
  have hC : Kd.C (Kd.int .i64) w a l.length l := Kd.C_of_reads (d := (0 : Int)) (h1 := fun _ => rfl) hr
  clear w0 hr hw
  by_cases h3 : l.length ≤ 300
  · obtain ⟨p, q, hv⟩ := bBase_form l
    have h1 := base_n a cap l w hc hC h3
    have h2 := fun w' (hb : Below w.heap.size w w') => rBase_n a cap l w' hc (Kd.C_below hC hb) h3
    rw [hv] at h1
    rw [hv] at h2
    have HC := Aside0.mk (And.intro h1 h2)
    clear h1 h2 hv hC
    unfold maxLen at hm
    have hle : ¬ (300 : Int) < (l.length : Int) := by omega
    go_enter Try.func8, Try.ntmps8
    go_wp2_with fail
    refine HC.out.1.mono ?_
    rintro e w2 ⟨rfl, hb2⟩
    have HB := Aside0.mk hb2
    clear hb2
    go_wp2_with fail
    refine (HC.out.2 _ HB.out).mono ?_
    rintro e w3 ⟨rfl, hb3⟩
    have HB3 := Aside0.mk (HB.out.trans (hb3.mono HB.out.size))
    clear hb3
    go_wp2_with fail
    refine (awake_n _).mono ?_
    rintro e w4 ⟨rfl, hb4⟩
    go_wp2_with fail
    go_ret
    exact ⟨rfl, HB3.out.trans (hb4.mono HB3.out.size)⟩
  · unfold maxLen at hm
    have hgt : (300 : Int) < (l.length : Int) := by omega
    clear h3 hC
    go_enter Try.func8, Try.ntmps8
    go_wp2_with fail
    refine (awake_n _).mono ?_
    rintro e w4 ⟨rfl, hb4⟩
    go_wp2_with fail
    go_ret
    exact ⟨rfl, hb4⟩
end Go.Proofs.Ytdginjpppgfdaaa.Br

namespace Go.Proofs.Ytdginjpppgfdaaa.exactBaseRow
open Go.ChangeShapes Go.WideShapes Go.ChangeAt Go.RowKit Go.Proofs.Ytdginjpppgfdaaa.O5
set_option linter.unusedVariables false
def IsRow (k : IntKind) (w : World) (a : Option Addr) (len cap : Nat) (zs : List Int) : Prop :=
  (a = none ∧ len = 0 ∧ cap = 0 ∧ zs = []) ∨
  ∃ x, a = some x ∧ len ≤ cap ∧ cap ≤ maxLen ∧ zs.length = cap ∧ (∀ i, i < zs.length → w.cell? (x.add i) = some (.int k (zs.getD i 0))) ∧ ∀ n ∈ zs, (Lit.int k n).wf = true
set_option maxRecDepth 100000 in
theorem lifted (os : Os) (started : os.Started) (H : Type) (enc : TypeId × Value → H) :
    ReturnsInHanded {} Try.checked os 8 .any (Rows.exactBaseSpec.pre6 enc Try.prog Try.f8 Rows.exactBaseRow.domain false) (Rows.exactBaseSpec.post enc Try.prog Try.f8 false true false false) := by
  refine returnsInHanded_of_change_sized (C := Try.checked) own started (by kernel_rfl) Try.func8
    (ChangeSpec.witness6 (enc := enc) (C := Try.checked) false ⟨#[], #[.slice none 0 0], []⟩ 8 (by kernel_rfl) (by kernel_rfl) (by kernel_rfl) (by kernel_rfl)) ?_
  intro W base args ds gs before hval0 hW hcnd hsz0 _
  have hsz : (DataW.weightsEach Try.prog (Try.f8.params.toList ++ Rows.exactBaseSpec.plain.varTypes Try.prog) (ds ++ gs)).all (· ≤ reachBytes) = true := hsz0
  have hval : ∀ (j : Nat) t v, Try.f8.params[j]? = some t → args[j]? = some v → Value.okWide Try.prog W .any base t v := hval0
  have hW' := hW
  obtain ⟨p, q, hA0, hV, rfl, hfz, hnd⟩ := hW
  have hA : DataW.TrodAll enc Try.prog W 0 (fun _ => true) true Try.f8.params.toList args.toList ds p := hA0
  rw [Try.params8] at hA hval hsz
  obtain ⟨v0, vs0, d0, ds0, p0, q0, hargs, rfl, rfl, h0, r0⟩ := trodAll_cons hA
  obtain ⟨rfl, rfl, rfl⟩ := trodAll_nil r0
  obtain rfl : args = #[v0] := by cases args; simp_all
  obtain ⟨rfl, rfl⟩ := trodVars_none hV
  obtain ⟨a0, len0, cap0, rfl⟩ := okWide_slice Try.underlying39 (hval 0 39 v0 rfl rfl)
  have k0 := h0
  have lt0 : ∀ x ∈ p0, x.block < W.heap.size := by obtain ⟨m, hm⟩ := k0; exact DataW.trod_lt m _ _ _ hm
  obtain ⟨z0, w0⟩ : ∃ zs, IsRow .i64 W a0 len0 cap0 zs := by
    obtain ⟨fuel, hf⟩ := h0
    rcases open_ints Try.underlying39 Try.underlying3 (by kernel_rfl) hf with ⟨hcs, _⟩ | ⟨x, l, c, zs, hcs, _, hl, hm, hz, _, hcell, hwz⟩
    · simp [Value.cells] at hcs
      obtain ⟨rfl, rfl, rfl⟩ := hcs
      exact ⟨[], .inl ⟨rfl, rfl, rfl, rfl⟩⟩
    · simp [Value.cells] at hcs
      obtain ⟨rfl, rfl, rfl⟩ := hcs
      exact ⟨zs, .inr ⟨_, rfl, hl, hm, by simpa using hz, hcell, hwz⟩⟩
  have y0 : len0 * 8 ≤ 140737488351232 := Go.Proofs.YtdginjpppgfdaaaW.PrintWords.sized_ints hsz (j := 0) (t := 39) rfl rfl Try.underlying39 Try.underlying3 (by kernel_rfl) (by kernel_rfl) h0
  clear hA0 hval0 hsz0 hsz
  refine (Br.walk a0 len0 cap0 z0 W w0 y0).mono fun e W' ⟨he, bel⟩ => ?_
  subst he
  exact ⟨_, rfl, _, _, _, [], _, [], hW', trodAll_mk1 (shut_bool Try.underlying4 _), (trodAll_cons_mk (Below.trod laidOut (by kernel_rfl) (of_decide_eq_true (by kernel_rfl)) k0 bel lt0) trodAll_mk0), rfl, bel.frame _, fun h => by cases h⟩
theorem over : Rows.exactBaseRow.holds Try.pinned (OpenSpec.ofChange Rows.exactBaseSpec) :=
  OpenClaim.holds_of_wide 8 Try.f8 rfl rfl rfl rfl rfl rfl rfl ⟨rfl, rfl, rfl, rfl, rfl⟩ rfl rfl rfl rfl rfl (by kernel_rfl) Try.func8 (by kernel_rfl)
    (of_decide_eq_true (by kernel_rfl)) (by unfold Func.isWrapper; first | (rw [if_pos (by decide +kernel)]; kernel_rfl) | (rw [if_neg (by decide +kernel)]; exact ⟨rfl, rfl⟩))
    (fun os started H enc _ => lifted os started H enc)
end Go.Proofs.Ytdginjpppgfdaaa.exactBaseRow
namespace Go.Proofs.Ytdginjpppgfdaaa
/-- The row, under a short name, for the claim. -/
theorem exactBase_holds : Rows.ExactBaseSaid := exactBaseRow.over
#print axioms exactBase_holds
end Go.Proofs.Ytdginjpppgfdaaa

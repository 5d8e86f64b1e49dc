/-
  The normal list of a list of edits as a plain value, and that the code tells it.
-/
import Derived.Test.YtpbhepdgamoiaaaPe
namespace Go.Proofs.Ytpbhepdgamoiaaa.Pf
open Go.RowKit Go Go.Proofs.YtpbhepdgamoiaaaW.PrintWords Go.Proofs.YtpbhepdgamoiaaaW.PrintLast Go.Proofs.YtpbhepdgamoiaaaW.PrintMore Go.Proofs.Ytpbhepdgamoiaaa.Mn Go.Proofs.Ytpbhepdgamoiaaa.Rf Go.Proofs.Ytpbhepdgamoiaaa.Er Go.Proofs.Ytpbhepdgamoiaaa.Ek Go.Proofs.Ytpbhepdgamoiaaa.E Go.Proofs.Ytpbhepdgamoiaaa.Pe
set_option linter.unusedVariables false
set_option linter.unusedSimpArgs false

/-- An edit with its rate in lowest terms. -/
def lowV (x : Ed) : Ed := ⟨x.f0, x.f1, (qq x.f2 x.f3).num, ((qq x.f2 x.f3).den : Int)⟩
/-- Whether an edit goes over into the next one. -/
def ovV (ms ts : Int) (a b : Ed) : Bool := overB ms ts a.f0 a.f1 a.f2 a.f3 b.f1 b.f2 b.f3
/-- One more edit; the last one stands first. -/
def push (ms ts : Int) : List Ed → Ed → List Ed
  | [], e => [e]
  | a :: t, e => if ovV ms ts a e = true then ⟨a.f0 + e.f0, a.f1, a.f2, a.f3⟩ :: t else e :: a :: t
def nrmR (ms ts : Int) (out l : List Ed) : List Ed := (l.map lowV).foldl (push ms ts) out
def nrm (ms ts : Int) (l : List Ed) : List Ed := (nrmR ms ts [] l).reverse
def fin (out : List Ed) : List Ed × Int := if 20 < out.length then ([], 2) else (out.reverse, 0)
/-- The normal list, or that there is none. -/
def nrmV (ms ts : Int) (l : List Ed) : List Ed × Int := if 1099511627776 < sumD l then ([], 2) else fin (nrmR ms ts [] l)
/-- An edit among those that are told. -/
structure Wd (x : Ed) : Prop where
  d0 : 1 ≤ x.f0
  m0 : -1 ≤ x.f1
  m1 : x.f1 ≤ 1099511627776
  n0 : 0 ≤ x.f2
  n1 : x.f2 ≤ 1000
  e0 : 1 ≤ x.f3
  e1 : x.f3 ≤ 1000
theorem wd_low {x : Ed} (h : Vd x) : Wd (lowV x) := by
  have hq := qq_low h.n0 h.e0
  have h1 := h.n1
  have h2 := h.e1
  exact ⟨h.d0, h.m0, h.m1, hq.1, by unfold lowV; simp only; omega, hq.2.2.1, by unfold lowV; simp only; omega⟩
theorem low_f {x : Ed} (h : Vd x) : edit_lowest.f x.f0 x.f1 x.f2 x.f3 = some ((lowV x).f0, (lowV x).f1, (lowV x).f2, (lowV x).f3) := by
  unfold edit_lowest.f rateOk
  have h0 := h.n0
  have h1 := h.n1
  have h2 := h.e0
  have h3 := h.e1
  rw [decide_eq_true h0, decide_eq_true (show x.f2 ≤ 1000000 by omega), decide_eq_true h2, decide_eq_true (show x.f3 ≤ 1000000 by omega)]
  rfl
theorem over_f {ms ts : Int} {a b : Ed} (hc : Ck ms ts) (ha : Wd a) (hd : a.f0 ≤ 1099511627776) (hb : Wd b) : edit_clocks_over.f ms ts a.f0 a.f1 a.f2 a.f3 b.f0 b.f1 b.f2 b.f3 = some (ovV ms ts a b) := by
  unfold edit_clocks_over.f overOk in64
  have c0 := hc.m0
  have c1 := hc.m1
  have c2 := hc.t0
  have c3 := hc.t1
  have a0 := ha.d0
  have a1 := ha.m0
  have a2 := ha.m1
  have a3 := ha.n0
  have a4 := ha.n1
  have a5 := ha.e0
  have a6 := ha.e1
  have b1 := hb.m0
  have b2 := hb.m1
  rw [if_pos (by simp only [Bool.and_eq_true, decide_eq_true_eq]; omega)]
  rfl
theorem sumD_rev (l : List Ed) : sumD l.reverse = sumD l := by
  induction l with
  | nil => rfl
  | cons x t ih => rw [List.reverse_cons, sumD_app, ih]; simp only [sumD]; omega
theorem push_sum (ms ts : Int) (out : List Ed) (e : Ed) : sumD (push ms ts out e) = sumD out + e.f0 := by
  cases out with
  | nil => simp [push, sumD]
  | cons a t =>
    simp only [push]
    split
    · simp only [sumD]; omega
    · simp only [sumD]; omega
theorem push_wd {ms ts : Int} {out : List Ed} {e : Ed} (h : ∀ x ∈ out, Wd x) (he : Wd e) : ∀ x ∈ push ms ts out e, Wd x := by
  cases out with
  | nil => simpa [push] using he
  | cons a t =>
    have ha := h a (by simp)
    simp only [push]
    split
    · intro x hx
      simp only [List.mem_cons] at hx
      rcases hx with rfl | hx
      · have a0 := ha.d0
        have e0 := he.d0
        exact ⟨by simp only; omega, ha.m0, ha.m1, ha.n0, ha.n1, ha.e0, ha.e1⟩
      · exact h x (by simp [hx])
    · intro x hx
      simp only [List.mem_cons] at hx
      rcases hx with rfl | hx
      · exact he
      · exact h x (by simpa using hx)
theorem push_len (ms ts : Int) (out : List Ed) (e : Ed) : (push ms ts out e).length ≤ out.length + 1 := by
  cases out with
  | nil => simp [push]
  | cons a t =>
    simp only [push]
    split <;> simp
theorem wd_sum {l : List Ed} (h : ∀ x ∈ l, Wd x) : 0 ≤ sumD l := by
  induction l with
  | nil => simp [sumD]
  | cons x t ih =>
    have h1 := (h x (by simp)).d0
    have h2 := ih (fun y hy => h y (by simp [hy]))
    simp only [sumD]
    omega
theorem normal_l {ms ts : Int} (hc : Ck ms ts) (l : List Ed) (hV : ∀ x ∈ l, Vd x) (hl : l.length ≤ 1000000000) (rest : List Ed) :
    ∀ pre out, l = pre ++ rest → sumD out = sumD pre → sumD pre ≤ 1099511627776 → (∀ x ∈ out, Wd x) → out.length ≤ pre.length →
      Ev (fun k => edit_clocks_normal.l0 k out.reverse (sumD pre) l (l.length : Int) (pre.length : Int) ms ts) (if 1099511627776 < sumD l then ([], 2) else fin (nrmR ms ts out rest)) := by
  induction rest with
  | nil =>
    intro pre out he hs hp hw ho
    subst he
    rw [if_neg (by simp only [List.append_nil]; omega)]
    refine Ev.step (f := fun _ => some (fin (nrmR ms ts out []))) (fun k => ?_) (Ev.now _)
    simp only [edit_clocks_normal.l0, List.append_nil]
    rw [if_neg (by omega)]
    unfold fin nrmR
    simp only [List.map_nil, List.foldl_nil, List.length_reverse]
    by_cases h : 20 < out.length
    · rw [if_pos h, if_pos (by omega)]
    · rw [if_neg h, if_neg (by omega)]
  | cons x t ih =>
    intro pre out he hs hp hw ho
    have hlen : l.length = pre.length + (t.length + 1) := by rw [he]; simp
    have hx : rd_T77 l (pre.length : Int) = x := by rw [he]; exact rd_at pre x t
    have hvx : Vd x := hV x (by rw [he]; simp)
    have hst : 0 ≤ sumD t := sumD_nonneg (fun y hy => hV y (by rw [he]; simp [hy]))
    have hsl : sumD l = sumD pre + x.f0 + sumD t := by rw [he, sumD_app]; simp only [sumD]; omega
    have hs0 : 0 ≤ sumD pre := by rw [← hs]; exact wd_sum hw
    have hd0 := hvx.d0
    have hd1 := hvx.d1
    have hsp : sumD (pre ++ [x]) = sumD pre + x.f0 := by rw [sumD_app]; simp [sumD]
    by_cases hbig : sumD pre + x.f0 > 1099511627776
    · rw [if_pos (by omega)]
      refine Ev.step (f := fun _ => some ([], 2)) (fun k => ?_) (Ev.now _)
      simp only [edit_clocks_normal.l0]
      rw [if_pos (by omega), if_pos (by omega), if_pos (by omega), hx, low_f hvx]
      simp only [Option.bind_some]
      rw [show (lowV x).f0 = x.f0 from rfl, w64 (by omega) (by omega), if_pos hbig]
    · have hwl := wd_low hvx
      have hr := ih (pre ++ [x]) (push ms ts out (lowV x)) (by rw [he]; simp) (by rw [push_sum, hs, hsp]; rfl) (by omega) (push_wd hw hwl) (by have := push_len ms ts out (lowV x); simp only [List.length_append, List.length_cons, List.length_nil]; omega)
      have hn : nrmR ms ts out (x :: t) = nrmR ms ts (push ms ts out (lowV x)) t := rfl
      rw [hn]
      refine Ev.step (f := fun k => edit_clocks_normal.l1 k out.reverse (sumD (pre ++ [x])) (out.reverse.length : Int) l (l.length : Int) (pre.length : Int) ms ts (lowV x).f0 (lowV x).f1 (lowV x).f2 (lowV x).f3) (fun k => ?_) ?_
      · simp only [edit_clocks_normal.l0]
        rw [if_pos (by omega), if_pos (by omega), if_pos (by omega), hx, low_f hvx]
        simp only [Option.bind_some]
        rw [show (lowV x).f0 = x.f0 from rfl, w64 (by omega) (by omega), if_neg hbig, hsp]
      · refine Ev.step (f := fun k => edit_clocks_normal.l0 k (push ms ts out (lowV x)).reverse (sumD (pre ++ [x])) l (l.length : Int) ((pre ++ [x]).length : Int) ms ts) (fun k => ?_) hr
        simp only [edit_clocks_normal.l1]
        have hpl : wrap64 ((pre.length : Int) + 1) = ((pre ++ [x]).length : Int) := by rw [w64 (by omega) (by omega)]; simp
        rw [hpl]
        cases out with
        | nil =>
          rw [if_neg (show ¬ (([] : List Ed).reverse.length : Int) > 0 by simp), if_pos (show ([] : List Ed).reverse.length < 4398046511104 by simp)]
          rfl
        | cons a o =>
          have hla : (a :: o).reverse.length = o.length + 1 := by simp
          have hra : rd_T77 (a :: o).reverse (o.length : Int) = a := by
            rw [List.reverse_cons]
            have := rd_at o.reverse a []
            rw [List.length_reverse] at this
            exact this
          have hol : o.length + 1 ≤ pre.length := ho
          have hsa := wd_sum (l := o) (fun y hy => hw y (by simp [hy]))
          have hda : a.f0 ≤ 1099511627776 := by simp only [sumD] at hs; omega
          rw [hla, if_pos (by omega), w64 (by omega) (by omega), show ((o.length + 1 : Nat) : Int) - 1 = (o.length : Int) by omega, if_pos (by omega), if_pos (by omega), hra]
          have ha0 := (hw a (by simp)).d0
          have hov : edit_clocks_over.f ms ts a.f0 a.f1 a.f2 a.f3 (lowV x).f0 (lowV x).f1 (lowV x).f2 (lowV x).f3 = some (ovV ms ts a (lowV x)) := over_f hc (hw a (by simp)) hda hwl
          rw [hov]
          simp only [Option.bind_some, push]
          by_cases hb : ovV ms ts a (lowV x) = true
          · rw [if_pos hb, if_pos hb]
            have hf : (lowV x).f0 = x.f0 := rfl
            simp only [sumD] at hs
            rw [w64 (by rw [hf]; omega) (by rw [hf]; omega)]
            congr 1
            rw [List.reverse_cons, List.reverse_cons, Int.toNat_natCast]
            have : o.length = o.reverse.length := by simp
            rw [this, List.set_append_right _ _ (Nat.le_refl _)]
            simp
          · rw [if_neg hb, if_neg hb, if_pos (by omega)]
            congr 1
            simp
theorem normal_f {ms ts : Int} (hc : Ck ms ts) (l : List Ed) (hV : ∀ x ∈ l, Vd x) (hl : l.length ≤ 1000000000) : Ev (fun k => edit_clocks_normal.f k ms ts l) (nrmV ms ts l) :=
  normal_l hc l hV hl l [] [] rfl rfl (by simp [sumD]) (by simp) (by simp)
theorem nrmR_sum (ms ts : Int) (l : List Ed) : ∀ out, sumD (nrmR ms ts out l) = sumD out + sumD l := by
  induction l with
  | nil => intro out; simp [nrmR, sumD]
  | cons x t ih =>
    intro out
    have h := ih (push ms ts out (lowV x))
    have hn : nrmR ms ts out (x :: t) = nrmR ms ts (push ms ts out (lowV x)) t := rfl
    rw [hn, h, push_sum]
    simp only [sumD]
    have : (lowV x).f0 = x.f0 := rfl
    omega
theorem nrm_sum (ms ts : Int) (l : List Ed) : sumD (nrm ms ts l) = sumD l := by
  unfold nrm
  rw [sumD_rev, nrmR_sum]
  simp [sumD]
theorem nrmR_len (ms ts : Int) (l : List Ed) : ∀ out, (nrmR ms ts out l).length ≤ out.length + l.length := by
  induction l with
  | nil => intro out; simp [nrmR]
  | cons x t ih =>
    intro out
    have h := ih (push ms ts out (lowV x))
    have hn : nrmR ms ts out (x :: t) = nrmR ms ts (push ms ts out (lowV x)) t := rfl
    have h2 := push_len ms ts out (lowV x)
    rw [hn]
    simp only [List.length_cons]
    omega
theorem nrm_len (ms ts : Int) (l : List Ed) : (nrm ms ts l).length ≤ l.length := by
  have := nrmR_len ms ts l []
  unfold nrm
  simp only [List.length_reverse, List.length_nil] at this ⊢
  omega
/-- What Normal tells. -/
def norV (ms ts : Int) (l : List Ed) : List Ed × Int := if chk l ms ts = 0 then (nrm ms ts l, 0) else ([], chk l ms ts)
theorem Normal_f (l : List Ed) (ms ts : Int) : Ev (fun k => edit_Normal.f k l ms ts) (norV ms ts l) := by
  unfold norV
  by_cases h0 : chk l ms ts = 0
  · obtain ⟨hc, hl, hV, hs⟩ := chk_ok.1 h0
    rw [if_pos h0]
    have hr : nrmV ms ts l = (nrm ms ts l, 0) := by
      have := nrmR_len ms ts l []
      simp only [List.length_nil] at this
      unfold nrmV fin nrm
      rw [if_neg (by omega), if_neg (by omega)]
    have h1 := check_f l ms ts
    rw [h0] at h1
    refine Ev.congr (fun k => rfl) (Ev.bind h1 ?_)
    refine Ev.congr (fun k => if_pos rfl) (Ev.bind (normal_f hc l hV (by omega)) ?_)
    rw [hr]
    exact Ev.now _
  · rw [if_neg h0]
    refine Ev.congr (fun k => rfl) (Ev.bind (check_f l ms ts) ?_)
    refine Ev.congr (fun k => if_neg h0) (Ev.now _)
end Go.Proofs.Ytpbhepdgamoiaaa.Pf

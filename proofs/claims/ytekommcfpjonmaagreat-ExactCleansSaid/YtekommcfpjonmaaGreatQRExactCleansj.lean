/-
  The reference's ends and what it joins. exact's add by numbers of any size, Add, Sub, Mul, Div, Lowest as values of whole numbers. exact.Total: how long spans are together. exact.Clean. The reference's functions of spans: what they tell. ExactCleans: the clean list of any spans, how long it is, and whether it has a time.
-/
import Derived.Test.YtekommcfpjonmaaGreatQRExactCleansi
import Derived.Test.YtekommcfpjonmaaGreatQRExactCleansh
import Derived.Test.YtekommcfpjonmaaGreatQRExactCleansb
import Derived.Test.YtekommcfpjonmaaGreatQRExactCleansc
import Derived.Test.YtekommcfpjonmaaGreatQRExactCleansf
import Derived.Test.YtekommcfpjonmaaGreatQRExactCleansg
namespace Go.Proofs.YtekommcfpjonmaaGreat.Rk
open Go.RowKit Go Go.Proofs.YtekommcfpjonmaaGreatW.PrintWords Go.Proofs.YtekommcfpjonmaaGreatW.PrintLast Go.Proofs.YtekommcfpjonmaaGreatW.PrintMore Go.Proofs.YtekommcfpjonmaaGreat.Mn Go.Proofs.YtekommcfpjonmaaGreat.Rf Go.Proofs.YtekommcfpjonmaaGreat.E Go.Proofs.YtekommcfpjonmaaGreat.Qr Go.Proofs.YtekommcfpjonmaaGreat.Qt Go.Proofs.YtekommcfpjonmaaGreat.Qu Go.Proofs.YtekommcfpjonmaaGreat.Sg Go.Proofs.YtekommcfpjonmaaGreat.Sx Go.Proofs.YtekommcfpjonmaaGreat.Sy Go.Proofs.YtekommcfpjonmaaGreat.Sz Go.Proofs.YtekommcfpjonmaaGreat.Rj
set_option linter.unusedVariables false
set_option linter.unusedSimpArgs false
theorem lT_eq {p q : Rat} : ((lT p).f0 == (lT q).f0 && (lT p).f1 == (lT q).f1) = true ↔ p = q := by
 rw [Bool.and_eq_true, beq_iff_eq, beq_iff_eq]
 constructor
 ·intro h
  refine lT_inj ?_
  show (⟨p.num, (p.den : Int)⟩ : Tm) = ⟨q.num, (q.den : Int)⟩
  have h1 : p.num = q.num := h.1
  have h2 : (p.den : Int) = q.den := h.2
  rw [h1, h2]
 ·rintro rfl
  exact ⟨rfl, rfl⟩
theorem cut_map (pre suf : List Rat) (q : Rat) : ((pre ++ suf).map lT).take ((pre.length : Int).toNat) ++ [(⟨(lT q).f0, (lT q).f1⟩ : Tm)] ++ ((pre ++ suf).map lT).drop ((pre.length : Int).toNat) = (pre ++ q :: suf).map lT := by
 have e : pre.length = (pre.map lT).length := (List.length_map _).symm
 rw [Int.toNat_natCast, List.map_append, e, List.take_left, List.drop_left]
 simp only [List.map_append, List.map_cons, List.append_assoc, List.cons_append, List.nil_append]
theorem ends_l1 (l : List Sn) (x4 : Int) (q : Rat) (hq : vT (lT q) = true) (r : List Tm) : ∀ (suf pre : List Rat), (∀ x ∈ pre ++ suf, vT (lT x) = true) → (pre ++ suf).length ≤ 100000 → Ev (fun k => dioramaref02_ends.l0 k l ((pre ++ insU q suf).map lT) (wrap64 (x4 + 1))) r →
  Ev (fun k => dioramaref02_ends.l1 k l ((pre ++ suf).map lT) x4 (pre.length : Int) (lT q).f0 (lT q).f1) r
 | [], pre, hv, hn, hk => by
  have hlen : (((pre ++ []).map lT).length : Int) = pre.length := by simp
  simp only [List.append_nil] at hn
  refine Ev.step (fun k => by rw [dioramaref02_ends.l1]) (Ev.congr (fun k => if_neg (by rw [hlen]; omega)) ?_)
  simp only [Option.bind_some, List.nil_append, List.length_nil, Nat.zero_add]
  refine Ev.congr (fun k => if_pos (by omega)) (Ev.congr (fun k => if_pos (by rw [hlen]; omega)) (Ev.congr (fun k => if_pos (by simp; omega)) (Ev.congr (fun k => if_pos (by simp; omega)) (Ev.congr (fun k => if_pos (by simp; omega)) ?_))))
  refine Ev.congr (fun k => ?_) hk
  rw [insU]
  exact congrArg (fun z => dioramaref02_ends.l0 k l z (wrap64 (x4 + 1))) (cut_map pre [] q)
 | x :: s, pre, hv, hn, hk => by
  have hlen : (((pre ++ x :: s).map lT).length : Int) = pre.length + (s.length + 1) := by simp
  have hn2 : pre.length + (s.length + 1) ≤ 100000 := by simpa using hn
  have hx : vT (lT x) = true := hv x (by simp)
  have hrd : rd_T24 ((pre ++ x :: s).map lT) (pre.length : Int) = lT x := rdT_at _ (by simp)
  refine Ev.step (fun k => by rw [dioramaref02_ends.l1]) (Ev.congr (fun k => if_pos (by rw [hlen]; omega)) (Ev.congr (fun k => if_pos (by omega)) ?_))
  rw [hrd]
  obtain ⟨b1, x1, y1, e1, v1⟩ := rat_f hx
  obtain ⟨b2, x2, y2, e2, v2⟩ := rat_f hq
  have h1 := lessR_f v1 v2 (by decide)
  rw [qT_lT, qT_lT] at h1
  refine Ev.bind e1 (Ev.bind e2 (Ev.bind h1 ?_))
  rw [insU] at hk
  by_cases c1 : x < q
  ·rw [if_pos c1] at hk
   refine Ev.congr (fun k => if_pos (decide_eq_true c1)) ?_
   have ih := ends_l1 l x4 q hq r s (pre ++ [x]) (by simpa using hv) (by simpa using hn) (by simpa using hk)
   refine Ev.congr (fun k => ?_) ih
   rw [w64 (by omega) (by omega)]
   simp
  ·rw [if_neg c1] at hk
   refine Ev.congr (fun k => if_neg (fun h => c1 (of_decide_eq_true h))) ?_
   by_cases c2 : x = q
   ·rw [if_pos c2] at hk
    exact Ev.congr (fun k => if_pos (lT_eq.2 c2)) hk
   ·rw [if_neg c2] at hk
    refine Ev.congr (fun k => if_neg (fun h => c2 (lT_eq.1 h))) ?_
    simp only [Option.bind_some, List.nil_append, List.length_nil, Nat.zero_add]
    refine Ev.congr (fun k => if_pos (by rw [hlen]; omega)) (Ev.congr (fun k => if_pos (by simp; omega)) (Ev.congr (fun k => if_pos (by simp; omega)) (Ev.congr (fun k => if_pos (by simp; omega)) ?_)))
    refine Ev.congr (fun k => ?_) hk
    exact congrArg (fun z => dioramaref02_ends.l0 k l z (wrap64 (x4 + 1))) (cut_map pre (x :: s) q)
theorem endQ_get : ∀ (L : List Sq) (i : Nat), (endQ L)[i]? = if i % 2 = 1 then (L[i / 2]?).map (·.2) else (L[i / 2]?).map (·.1)
 | [], i => by simp [endQ]
 | s :: r, 0 => by simp [endQ]
 | s :: r, 1 => by simp [endQ]
 | s :: r, i + 2 => by
  simp only [endQ, List.getElem?_cons_succ]
  rw [endQ_get r i, show (i + 2) % 2 = i % 2 by omega, show (i + 2) / 2 = i / 2 + 1 by omega, List.getElem?_cons_succ]
theorem ends_f {l : List Sn} (hl : l.length ≤ 1000) (hv : ∀ s ∈ l, vS s = true) : Ev (fun k => dioramaref02_ends.f k l) ((endL (l.map qS)).map lT) := by
 have hlen : (endQ (l.map qS)).length = 2 * l.length := by rw [endQ_len, List.length_map]
 have key : ∀ (n i : Nat) (R : List Rat), i + n = 2 * l.length → (∀ x ∈ R, vT (lT x) = true) → R.length ≤ i → Ev (fun k => dioramaref02_ends.l0 k l (R.map lT) (i : Int)) ((endR R ((endQ (l.map qS)).drop i)).map lT) := by
  intro n
  induction n with
  | zero =>
   intro i R hi _ _
   refine Ev.step (fun k => by rw [dioramaref02_ends.l0]) (Ev.congr (fun k => if_neg (by rw [w64 (by omega) (by omega)]; omega)) ?_)
   rw [List.drop_of_length_le (by omega), endR]
   exact Ev.now _
  | succ n ih =>
   intro i R hi hR hn
   have hj : i / 2 < l.length := by omega
   have hd : wrap64 (Int.tdiv (i : Int) 2) = ((i / 2 : Nat) : Int) := by
    rw [show Int.tdiv (i : Int) 2 = ((i / 2 : Nat) : Int) from (Int.ofNat_tdiv i 2).symm, w64 (by omega) (by omega)]
   have hm : Int.tmod (i : Int) 2 = ((i % 2 : Nat) : Int) := (Int.ofNat_tmod i 2).symm
   have hs : rd_T53 l ((i / 2 : Nat) : Int) = l[i / 2] := by
    unfold rd_T53
    rw [List.getD_eq_getElem?_getD, Int.toNat_natCast, List.getElem?_eq_getElem hj]
    rfl
   have hX := vS_is (hv _ (List.getElem_mem hj))
   have step : ∀ t : Tm, vT t = true → (endQ (l.map qS)).drop i = qT t :: (endQ (l.map qS)).drop (i + 1) → Ev (fun k => dioramaref02_ends.j1 k l (R.map lT) (i : Int) t.f0 t.f1) ((endR R ((endQ (l.map qS)).drop i)).map lT) := by
    intro t ht he
    refine Ev.step (fun k => by rw [dioramaref02_ends.j1]) (Ev.bind (low_f ht) ?_)
    have h2 := ends_l1 l (i : Int) (qT t) (vT_low ht) ((endR R ((endQ (l.map qS)).drop i)).map lT) R [] (by simpa using hR) (by simpa using (show R.length ≤ 100000 by omega)) (by
     have ih' := ih (i + 1) (insU (qT t) R) (by omega) (fun x hx => by
      rcases insU_mem.1 hx with rfl | hx
      ·exact vT_low ht
      ·exact hR x hx) (by have := insU_len (q := qT t) R; omega)
     rw [he, endR]
     refine Ev.congr (fun k => ?_) ih'
     rw [w64 (by omega) (by omega)]
     simp)
    exact h2
   have hdrop : ∀ q, (endQ (l.map qS))[i]? = some q → (endQ (l.map qS)).drop i = q :: (endQ (l.map qS)).drop (i + 1) := fun q hq => by
    have hlt : i < (endQ (l.map qS)).length := by omega
    rw [List.drop_eq_getElem_cons hlt]
    congr 1
    rw [List.getElem?_eq_getElem hlt] at hq
    exact Option.some.inj hq
   refine Ev.step (fun k => by rw [dioramaref02_ends.l0]) (Ev.congr (fun k => if_pos (by rw [w64 (by omega) (by omega)]; omega)) ?_)
   rw [hd, hm, hs]
   refine Ev.congr (fun k => if_pos (by omega)) (Ev.congr (fun k => if_pos (by omega)) ?_)
   by_cases h1 : i % 2 = 1
   ·refine Ev.congr (fun k => if_pos (by omega)) (step l[i / 2].f1 hX.2.1 (hdrop _ ?_))
    rw [endQ_get, if_pos h1, List.getElem?_map, List.getElem?_eq_getElem hj]
    rfl
   ·refine Ev.congr (fun k => if_neg (by omega)) (step l[i / 2].f0 hX.1 (hdrop _ ?_))
    rw [endQ_get, if_neg h1, List.getElem?_map, List.getElem?_eq_getElem hj]
    rfl
 have := key (2 * l.length) 0 [] (by omega) (by simp) (by simp)
 rw [List.drop_zero] at this
 exact this
def kp (how : Int) (x y : Bool) : Bool := if how = 0 then x || y else (if how = 1 then x && y else x && !y)
def fQ (how : Int) (A B : List Sq) (q : Rat) : Bool := kp how (inB A q) (inB B q)
def con (out S : List Sq) : List Sq := match out.getLast? with
 | none => mrg S
 | some a => out.dropLast ++ jn a S
theorem con_snoc (pre S : List Sq) (a : Sq) : con (pre ++ [a]) S = pre ++ jn a S := by
 unfold con
 rw [List.getLast?_concat]
 simp
theorem con_nil (out : List Sq) : con out [] = out := by
 rcases List.eq_nil_or_concat out with rfl | ⟨pre, a, h⟩
 ·rfl
 ·rw [List.concat_eq_append] at h
  subst h
  rw [con_snoc]
  rfl
theorem rdS_at (out : List Sq) {i : Nat} {s : Sq} (h : out[i]? = some s) : rd_T53 (out.map lS) (i : Int) = lS s := by
 unfold rd_T53
 rw [List.getD_eq_getElem?_getD, Int.toNat_natCast, List.getElem?_map, h]
 rfl
theorem rdT_len (R : List Rat) {i : Nat} {x : Rat} {r : List Rat} (h : R.drop i = x :: r) : rd_T24 (R.map lT) (i : Int) = lT x := rdT_at R (by
 have : (R.drop i)[0]? = some x := by rw [h]; rfl
 rwa [List.getElem?_drop] at this)
theorem us_drop : ∀ {R : List Rat} (i : Nat), Us R → Us (R.drop i)
 | [], i, _ => by simp [Us]
 | x :: r, 0, h => h
 | x :: r, i + 1, h => us_drop i h.2
theorem joined_l0 {a b : List Sn} {how : Int} (hh : how = 0 ∨ how = 1 ∨ how = 2) (la : a.length ≤ 1000) (lb : b.length ≤ 1000) (va : ∀ s ∈ a, vS s = true) (vb : ∀ s ∈ b, vS s = true) (R : List Rat) (hR : ∀ x ∈ R, vT (lT x) = true) (hU : Us R) (hl : R.length ≤ 100000) :
  ∀ (n i : Nat) (out : List Sq), i + n = R.length → out.length ≤ i → (∀ c x, out.getLast? = some c → R[i]? = some x → c.2 ≤ x) → Ev (fun k => dioramaref02_joined.l0 k a b how (R.map lT) (out.map lS) (i : Int)) ((con out (sgm (fQ how (a.map qS) (b.map qS)) (R.drop i))).map lS) := by
 have hlen : ((R.map lT).length : Int) = R.length := by rw [List.length_map]
 intro n
 induction n with
 | zero =>
  intro i out hi ho hc
  refine Ev.step (fun k => by rw [dioramaref02_joined.l0]) (Ev.congr (fun k => if_neg (by rw [hlen, w64 (by omega) (by omega)]; omega)) ?_)
  rw [List.drop_of_length_le (by omega), show sgm (fQ how (a.map qS) (b.map qS)) [] = [] from rfl, con_nil]
  exact Ev.now _
 | succ n ih =>
  intro i out hi ho hc
  by_cases h1 : i + 1 < R.length
  ·have hx : R.drop i = R[i] :: R.drop (i + 1) := List.drop_eq_getElem_cons (by omega)
   have hy : R.drop (i + 1) = R[i + 1] :: R.drop (i + 1 + 1) := List.drop_eq_getElem_cons (by omega)
   have hxy : R[i] < R[i + 1] := by
    have := us_drop i hU
    rw [hx] at this
    exact this.1 _ (by rw [hy]; exact List.mem_cons_self)
   have hvx : vT (lT R[i]) = true := hR _ (List.getElem_mem _)
   have hi1 : wrap64 ((i : Int) + 1) = ((i + 1 : Nat) : Int) := by rw [w64 (by omega) (by omega)]; rfl
   have rx := rdT_len R hx
   have ry := rdT_len R hy
   have ex : R[i]? = some R[i] := List.getElem?_eq_getElem (by omega)
   have ey : R[i + 1]? = some R[i + 1] := List.getElem?_eq_getElem h1
   have hS : sgm (fQ how (a.map qS) (b.map qS)) (R.drop i) = if fQ how (a.map qS) (b.map qS) R[i] = true then (R[i], R[i + 1]) :: sgm (fQ how (a.map qS) (b.map qS)) (R.drop (i + 1)) else sgm (fQ how (a.map qS) (b.map qS)) (R.drop (i + 1)) := by
    rw [hx, hy, sgm]
    simp only [hxy, true_and]
   rw [hS]
   generalize R[i] = x at *
   generalize R[i + 1] = y at *
   refine Ev.step (fun k => by rw [dioramaref02_joined.l0]) (Ev.congr (fun k => if_pos (by rw [hlen, hi1]; omega)) (Ev.congr (fun k => if_pos (by omega)) (Ev.congr (fun k => if_pos (by rw [hlen]; omega)) ?_)))
   rw [rx]
   have i1 := inside_f (l := a) (t := lT x) (by omega) va hvx
   have i2 := inside_f (l := b) (t := lT x) (by omega) vb hvx
   rw [qT_lT] at i1 i2
   refine Ev.bind i1 (Ev.bind i2 ?_)
   have ef : fQ how (a.map qS) (b.map qS) x = kp how (inB (a.map qS) x) (inB (b.map qS) x) := rfl
   generalize inB (a.map qS) x = tx at *
   generalize inB (b.map qS) x = ty at *
   refine Ev.congr (f := fun k => dioramaref02_joined.j1 k a b how (R.map lT) (out.map lS) (i : Int) (!kp how tx ty)) (fun k => by rcases hh with rfl | rfl | rfl <;> cases tx <;> cases ty <;> rfl) ?_
   rw [ef]
   cases hk : kp how tx ty with
   | false =>
    refine Ev.step (fun k => by rw [dioramaref02_joined.j1]) (Ev.congr (fun k => if_pos (by decide)) ?_)
    rw [if_neg (by decide), hi1]
    exact ih (i + 1) out (by omega) (by omega) (fun c z h2 h3 => by
     have h4 := hc c x h2 ex
     rw [ey] at h3
     obtain rfl := Option.some.inj h3
     grind)
   | true =>
    refine Ev.step (fun k => by rw [dioramaref02_joined.j1]) (Ev.congr (fun k => if_neg (by decide)) ?_)
    rw [if_pos rfl]
    have fresh : ∀ pre : List Sq, pre.length ≤ i → Ev (fun k => dioramaref02_joined.l0 k a b how (R.map lT) ((pre ++ [(x, y)]).map lS) ((i + 1 : Nat) : Int)) ((pre ++ jn (x, y) (sgm (fQ how (a.map qS) (b.map qS)) (R.drop (i + 1)))).map lS) := fun pre hp => by
     have := ih (i + 1) (pre ++ [(x, y)]) (by omega) (by simpa using hp) (fun c z h2 h3 => by
      rw [List.getLast?_concat] at h2
      obtain rfl := Option.some.inj h2
      rw [ey] at h3
      obtain rfl := Option.some.inj h3
      exact Rat.le_refl)
     rwa [con_snoc] at this
    have news : ∀ (pre : List Sq), (⟨⟨(rd_T24 (R.map lT) (i : Int)).f0, (rd_T24 (R.map lT) (i : Int)).f1⟩, ⟨(rd_T24 (R.map lT) ((i + 1 : Nat) : Int)).f0, (rd_T24 (R.map lT) ((i + 1 : Nat) : Int)).f1⟩⟩ : Sn) = lS (x, y) := fun _ => by
     show (⟨⟨(rd_T24 (R.map lT) (i : Int)).f0, (rd_T24 (R.map lT) (i : Int)).f1⟩, ⟨(rd_T24 (R.map lT) ((i + 1 : Nat) : Int)).f0, (rd_T24 (R.map lT) ((i + 1 : Nat) : Int)).f1⟩⟩ : Sn) = lS (x, y)
     rw [rx, ry]
     rfl
    rcases List.eq_nil_or_concat out with rfl | ⟨pre, c, hpc⟩
    ·refine Ev.congr (fun k => if_neg (by simp)) ?_
     rw [hi1]
     refine Ev.congr (fun k => if_pos (by omega)) (Ev.congr (fun k => if_pos (by rw [hlen]; omega)) (Ev.congr (fun k => if_pos (by omega)) (Ev.congr (fun k => if_pos (by rw [hlen]; omega)) (Ev.congr (fun k => if_pos (by simp)) ?_))))
     refine Ev.congr (fun k => ?_) (fresh [] (by simp))
     rw [news []]
     rfl
    ·rw [List.concat_eq_append] at hpc
     subst hpc
     have hcl : (((pre ++ [c]).map lS).length : Int) = (pre.length : Int) + 1 := by simp
     have hcl2 : ((pre ++ [c]).map lS).length = pre.length + 1 := by simp
     have ho2 : pre.length + 1 ≤ i := by simpa using ho
     have hw : wrap64 ((((pre ++ [c]).map lS).length : Int) - 1) = (pre.length : Int) := by rw [hcl, w64 (by omega) (by omega)]; omega
     have rc : rd_T53 ((pre ++ [c]).map lS) (pre.length : Int) = lS c := rdS_at _ (by simp)
     have hcx : c.2 ≤ x := hc c x (List.getLast?_concat) ex
     rw [con_snoc]
     refine Ev.congr (fun k => if_pos (by rw [hcl]; omega)) ?_
     rw [hw, hi1, rc, rx]
     refine Ev.congr (fun k => if_pos (by omega)) (Ev.congr (fun k => if_pos (by rw [hcl]; omega)) (Ev.congr (fun k => if_pos (by omega)) (Ev.congr (fun k => if_pos (by rw [hlen]; omega)) ?_)))
     by_cases he : c.2 = x
     ·refine Ev.congr (fun k => if_pos (lT_eq.2 he)) (Ev.congr (fun k => if_pos (by omega)) (Ev.congr (fun k => if_pos (by rw [hlen]; omega)) ?_))
      have := ih (i + 1) (pre ++ [(c.1, y)]) (by omega) (by simp; omega) (fun c' z h2 h3 => by
       rw [List.getLast?_concat] at h2
       obtain rfl := Option.some.inj h2
       rw [ey] at h3
       obtain rfl := Option.some.inj h3
       exact Rat.le_refl)
      rw [con_snoc] at this
      rw [jn, if_neg (by rw [he]; exact Rat.lt_irrefl), show mxR c.2 y = y by unfold mxR; rw [if_pos (by rw [he]; exact hxy)]]
      refine Ev.congr (fun k => ?_) this
      congr 1
      rw [ry, Int.toNat_natCast, List.map_append, List.set_append_right _ _ (by simp), List.length_map, Nat.sub_self]
      simp only [List.map_cons, List.map_nil, List.set_cons_zero, List.map_append]
      rfl
     ·refine Ev.congr (fun k => if_neg (fun h => he (lT_eq.1 h))) (Ev.congr (fun k => if_pos (by omega)) (Ev.congr (fun k => if_pos (by rw [hlen]; omega)) (Ev.congr (fun k => if_pos (by rw [hcl2]; omega)) ?_)))
      rw [jn, if_pos (by grind)]
      have := fresh (pre ++ [c]) (by simpa using ho2)
      rw [show pre ++ c :: jn (x, y) (sgm (fQ how (a.map qS) (b.map qS)) (R.drop (i + 1))) = pre ++ [c] ++ jn (x, y) (sgm (fQ how (a.map qS) (b.map qS)) (R.drop (i + 1))) by simp]
      refine Ev.congr (fun k => ?_) this
      congr 1
      rw [ry, List.map_append (l₂ := [(x, y)])]
      rfl
  ·refine Ev.step (fun k => by rw [dioramaref02_joined.l0]) (Ev.congr (fun k => if_neg (by rw [hlen, w64 (by omega) (by omega)]; omega)) ?_)
   have hd : R.drop i = [R[i]] := by
    rw [List.drop_eq_getElem_cons (show i < R.length by omega), List.drop_of_length_le (by omega)]
   rw [hd, show sgm (fQ how (a.map qS) (b.map qS)) [R[i]] = [] from rfl, con_nil]
   exact Ev.now _
def joQ (how : Int) (A B : List Sq) : List Sq := mrg (sgm (fQ how A B) (endL (A ++ B)))
theorem ends_v {l : List Sn} (hv : ∀ s ∈ l, vS s = true) : ∀ x ∈ endL (l.map qS), vT (lT x) = true := by
 intro x hx
 rcases (endR_mem _).1 hx with h | h
 ·cases h
 ·obtain ⟨s, hs, he⟩ := endQ_mem.1 h
  obtain ⟨z, hz, rfl⟩ := List.mem_map.1 hs
  have := vS_is (hv z hz)
  rcases he with rfl | rfl
  ·exact vT_low this.1
  ·exact vT_low this.2.1
theorem joined_f {a b : List Sn} {how : Int} (hh : how = 0 ∨ how = 1 ∨ how = 2) (la : a.length ≤ 400) (lb : b.length ≤ 400) (va : ∀ s ∈ a, vS s = true) (vb : ∀ s ∈ b, vS s = true) : Ev (fun k => dioramaref02_joined.f k a b how) ((joQ how (a.map qS) (b.map qS)).map lS) := by
 have hv : ∀ s ∈ a ++ b, vS s = true := fun s hs => by
  rcases List.mem_append.1 hs with h | h
  ·exact va s h
  ·exact vb s h
 have he := ends_f (l := a ++ b) (by simp; omega) hv
 have hn : (endL ((a ++ b).map qS)).length ≤ 100000 := by
  have h1 := endR_len (endQ ((a ++ b).map qS)) []
  rw [endQ_len, List.length_map, List.length_append] at h1
  unfold endL
  simp only [List.length_nil] at h1
  omega
 have hj := joined_l0 hh (by omega) (by omega) va vb (endL ((a ++ b).map qS)) (ends_v hv) (endR_us _ trivial) hn (endL ((a ++ b).map qS)).length 0 [] (by omega) (by simp) (by simp)
 refine Ev.congr (f := fun k => (dioramaref02_ends.f k (a ++ b)).bind fun t420 => dioramaref02_joined.l0 k a b how t420 [] 0) (fun k => ?_) (Ev.bind he ?_)
 ·unfold dioramaref02_joined.f
  simp only [Option.bind_some, List.nil_append, List.length_nil, Nat.zero_add]
  rw [if_pos (by omega), if_pos (by omega)]
 ·unfold joQ
  rw [← List.map_append]
  exact hj
theorem steady_in (A : List Sq) {E : List Rat} (h : ∀ s ∈ A, s.1 ∈ E ∧ s.2 ∈ E) : Steady (inB A) E := by
 intro x q hxq he
 have key : ∀ e ∈ E, decide (x < e) = decide (q < e) := fun e hm => by
  have := he e hm
  by_cases h1 : q < e
  ·rw [decide_eq_true h1, decide_eq_true (by grind)]
  ·rw [decide_eq_false h1, decide_eq_false (fun h2 => this ⟨h2, by grind⟩)]
 unfold inB
 induction A with
 | nil => rfl
 | cons s r ih =>
  rw [List.any_cons, List.any_cons, key _ (h s (by simp)).1, key _ (h s (by simp)).2, ih (fun s hs => h s (by simp [hs]))]
theorem joQ_is (how : Int) (A B : List Sq) : Cn (joQ how A B) ∧ ∀ q, inS (joQ how A B) q ↔ fQ how A B q = true := by
 have hm : ∀ y, y ∈ endL (A ++ B) ↔ ∃ s ∈ A ++ B, y = s.1 ∨ y = s.2 := fun y => by
  unfold endL
  rw [endR_mem, endQ_mem]
  simp
 have hA : ∀ s ∈ A, s.1 ∈ endL (A ++ B) ∧ s.2 ∈ endL (A ++ B) := fun s hs => ⟨(hm _).2 ⟨s, by simp [hs], .inl rfl⟩, (hm _).2 ⟨s, by simp [hs], .inr rfl⟩⟩
 have hB : ∀ s ∈ B, s.1 ∈ endL (A ++ B) ∧ s.2 ∈ endL (A ++ B) := fun s hs => ⟨(hm _).2 ⟨s, by simp [hs], .inl rfl⟩, (hm _).2 ⟨s, by simp [hs], .inr rfl⟩⟩
 refine mrg_sgm (us_up (endR_us _ trivial)) (fun x q hxq he => ?_) (fun q hq => ?_)
 ·unfold fQ
  rw [steady_in A hA x q hxq he, steady_in B hB x q hxq he]
 ·have : inB A q = true ∨ inB B q = true := by
   unfold fQ kp at hq
   cases h1 : inB A q <;> cases h2 : inB B q <;> simp_all
  rcases this with h | h
  ·obtain ⟨s, hs, h1, h2⟩ := inB_iff.1 h
   exact ⟨⟨_, (hA s hs).1, h1⟩, ⟨_, (hA s hs).2, h2⟩⟩
  ·obtain ⟨s, hs, h1, h2⟩ := inB_iff.1 h
   exact ⟨⟨_, (hB s hs).1, h1⟩, ⟨_, (hB s hs).2, h2⟩⟩
theorem joQ_or (A B : List Sq) : joQ 0 A B = cnl (A ++ B) := cnl_of (joQ_is 0 A B).1 (fun q => by
 rw [(joQ_is 0 A B).2 q, inS_app, ← inB_iff, ← inB_iff]
 unfold fQ kp
 simp)
theorem clean_jo (l : List Sn) : (joQ 0 (l.map qS) []).map lS = clnL l := by
 rw [joQ_or, List.append_nil]
 rfl
end Go.Proofs.YtekommcfpjonmaaGreat.Rk
namespace Go.Proofs.YtekommcfpjonmaaGreat.Ru
open Go.RowKit Go Go.Proofs.YtekommcfpjonmaaGreatW.PrintWords Go.Proofs.YtekommcfpjonmaaGreatW.PrintLast Go.Proofs.YtekommcfpjonmaaGreatW.PrintMore Go.Proofs.YtekommcfpjonmaaGreat.Ml Go.Proofs.YtekommcfpjonmaaGreat.Mn Go.Proofs.YtekommcfpjonmaaGreat.Nd Go.Proofs.YtekommcfpjonmaaGreat.Z Go.Proofs.YtekommcfpjonmaaGreat.P Go.Proofs.YtekommcfpjonmaaGreat.Nc Go.Proofs.YtekommcfpjonmaaGreat.Nb Go.Proofs.YtekommcfpjonmaaGreat.Qa Go.Proofs.YtekommcfpjonmaaGreat.Qb Go.Proofs.YtekommcfpjonmaaGreat.Ea Go.Proofs.YtekommcfpjonmaaGreat.Eb Go.Proofs.YtekommcfpjonmaaGreat.Ec Go.Proofs.YtekommcfpjonmaaGreat.Ed Go.Proofs.YtekommcfpjonmaaGreat.Ee Go.Proofs.YtekommcfpjonmaaGreat.Ra Go.Proofs.YtekommcfpjonmaaGreat.Rb Go.Proofs.YtekommcfpjonmaaGreat.Rc Go.Proofs.YtekommcfpjonmaaGreat.Rd Go.Proofs.YtekommcfpjonmaaGreat.E
set_option linter.unusedVariables false
set_option linter.unusedSimpArgs false
set_option maxHeartbeats 8000000 in
set_option maxRecDepth 100000 in
theorem Sub_n (n1 d1 n2 d2 : Int) (w : World) :
  Calls Tryz.prog 46 #[tm n1 d1, tm n2 d2] w (ValP w (vSub n1 d1 n2 d2)) := by
 have hu := Tryz.underlying24
 have hB := Aside0.mk (Boxed.start w n1 d1 n2 d2)
 cases hv : (valid n1 d1 && valid n2 d2) with
 | false =>
  rw [show vSub n1 d1 n2 d2 = .tuple #[.agg #[.int .i64 0, .int .i64 0], .int .i64 4] by unfold vSub; rw [hv]; rfl]
  unfold tm
  go_enter Tryz.func46, Tryz.ntmps46
  go_wp2_with fail
  generalize hW : World.alloc (World.alloc _ _) _ = W
  have HB := Aside0.mk (show Boxed w W n1 d1 n2 d2 by rw [← hW]; exact hB.out)
  clear hW hB
  refine (valid2_n _ n1 d1 n2 d2 W HB.out.s).mono ?_
  rintro e w2 ⟨rfl, hb2⟩
  rw [hv]
  have HB2 := Aside0.mk (HB.out.step hb2)
  clear hb2 HB
  obtain ⟨r0, r1, r2, r3⟩ := time_cells HB2.out.r
  go_wp2_with fail
  refine bodyPost_ret (results_ct rfl _ _ (w.heap.size + 1 + 1) 24 #[.int .i64 0, .int .i64 0] (0, 0) _ rfl (blk_two HB2.out.r) Tryz.underlying24 rfl (by kernel_rfl)) rfl ?_
  exact ⟨rfl, (HB2.out.below.setCell (by simp; omega) _).setCell (by simp; omega) _⟩
 | true =>
  have hv2 := hv
  simp only [Bool.and_eq_true] at hv2
  have q1 := valid_bd hv2.1
  have q2 := valid_bd hv2.2
  obtain ⟨N, D, E, hV⟩ := vLow_form (n1 * d2 + -n2 * d1) (d1 * d2)
  have hC := fun w => xadd_n n1 d1 (-n2) d2 w hv2.1 (by unfold valid; simp; omega)
  rw [hV] at hC
  rw [show vSub n1 d1 n2 d2 = .tuple #[.agg #[.int .i64 N, .int .i64 D], .int .i64 E] by unfold vSub; rw [hv, ← hV]; rfl]
  have HC := Aside0.mk hC
  clear hC hV hv2
  unfold tm at HC
  unfold tm
  go_enter Tryz.func46, Tryz.ntmps46
  go_wp2_with fail
  generalize hW : World.alloc (World.alloc _ _) _ = W
  have HB := Aside0.mk (show Boxed w W n1 d1 n2 d2 by rw [← hW]; exact hB.out)
  clear hW hB
  refine (valid2_n _ n1 d1 n2 d2 W HB.out.s).mono ?_
  rintro e w2 ⟨rfl, hb2⟩
  rw [hv]
  have HB2 := Aside0.mk (HB.out.step hb2)
  clear hb2 HB
  obtain ⟨a0, a1, b0, b1⟩ := HB2.out.cells
  go_wp2_with fail
  refine (HC.out _).mono ?_
  rintro e w3 ⟨rfl, hb3⟩
  have HB3 := Aside0.mk (HB2.out.step hb3)
  obtain ⟨r0, r1, r2, r3⟩ := time_cells HB3.out.r
  clear hb3 HB2 a0 a1 b0 b1
  go_wp2_with fail
  refine bodyPost_ret (results_ct rfl _ _ (w.heap.size + 1 + 1) 24 #[.int .i64 N, .int .i64 D] (0, 0) _ rfl (blk_two HB3.out.r) Tryz.underlying24 rfl (by kernel_rfl)) rfl ?_
  exact ⟨rfl, (HB3.out.below.setCell (by simp; omega) _).setCell (by simp; omega) _⟩
end Go.Proofs.YtekommcfpjonmaaGreat.Ru
namespace Go.Proofs.YtekommcfpjonmaaGreat.E
open Go.RowKit Go Go.Proofs.YtekommcfpjonmaaGreatW.PrintWords Go.Proofs.YtekommcfpjonmaaGreatW.PrintLast Go.Proofs.YtekommcfpjonmaaGreatW.PrintMore Go.Proofs.YtekommcfpjonmaaGreat.Mn Go.Proofs.YtekommcfpjonmaaGreat.Nd Go.Proofs.YtekommcfpjonmaaGreat.Z Go.Proofs.YtekommcfpjonmaaGreat.Ea Go.Proofs.YtekommcfpjonmaaGreat.Ra Go.Proofs.YtekommcfpjonmaaGreat.Rb Go.Proofs.YtekommcfpjonmaaGreat.Rf Go.Proofs.YtekommcfpjonmaaGreat.Rd Go.Proofs.YtekommcfpjonmaaGreat.Ru Go.Proofs.YtekommcfpjonmaaGreat.Ee Go.Proofs.YtekommcfpjonmaaGreat.Sg Go.Proofs.YtekommcfpjonmaaGreat.Sx Go.Proofs.YtekommcfpjonmaaGreat.Sy Go.Proofs.YtekommcfpjonmaaGreat.Xv Go.Proofs.YtekommcfpjonmaaGreat.Xj Go.Proofs.YtekommcfpjonmaaGreat.Xn Go.Proofs.YtekommcfpjonmaaGreat.Xp
set_option linter.unusedVariables false
set_option linter.unusedSimpArgs false
def totR : Tm → List Sn → Tm × Int
 | s, [] => (s, 0)
 | s, x :: r => if (tmT (qT x.f1 - qT x.f0)).2 = 0 then (if (tmT (qT s + qT (tmT (qT x.f1 - qT x.f0)).1)).2 = 0 then totR (tmT (qT s + qT (tmT (qT x.f1 - qT x.f0)).1)).1 r else (⟨0, 0⟩, (tmT (qT s + qT (tmT (qT x.f1 - qT x.f0)).1)).2)) else (⟨0, 0⟩, (tmT (qT x.f1 - qT x.f0)).2)
def totV (l : List Sn) : Tm × Int := if allV l = true then totR ⟨0, 1⟩ (clnL l) else (⟨0, 0⟩, 4)
theorem sub_n {a b : Tm} (ha : vT a = true) (hb : vT b = true) {N D E : Int} (h : tmT (qT a - qT b) = (⟨N, D⟩, E)) (w : World) : Calls Tryz.prog 46 #[.agg #[.int .i64 a.f0, .int .i64 a.f1], .agg #[.int .i64 b.f0, .int .i64 b.f1]] w (ValP w (.tuple #[.agg #[.int .i64 N, .int .i64 D], .int .i64 E])) := by
 have h1 := vT_is ha
 have h2 := vT_is hb
 have k := Sub_n a.f0 a.f1 b.f0 b.f1 w
 have e : vSub a.f0 a.f1 b.f0 b.f1 = tT (tmT (qT a - qT b)) := by
  unfold vSub
  have h3 : (valid a.f0 a.f1 && valid b.f0 b.f1) = true := by
   rw [Bool.and_eq_true]
   exact ⟨ha, hb⟩
  rw [h3, if_pos rfl, vLow_q (Int.ne_of_gt (Int.mul_pos (show 0 < a.f1 by omega) (show 0 < b.f1 by omega))), qq_plus (by omega) (by omega)]
  have : qq (-b.f0) b.f1 = -qT b := by
   unfold qT qq
   exact (Rat.neg_divInt _ _).symm
  rw [this, ← Rat.sub_eq_add_neg]
  rfl
 rw [e, h] at k
 exact k
theorem vT_tm {q : Rat} {N D : Int} {E : Int} (h : tmT q = (⟨N, D⟩, E)) (h0 : E = 0) : vT ⟨N, D⟩ = true := by
 have := tmT_v (q := q) (by rw [h]; exact h0)
 rw [h] at this
 have e : (⟨N, D⟩ : Tm) = lT q := this.1
 rw [e]
 exact this.2
structure Ts (w W : World) (G B : Nat) (v : Value) (l : List Sn) (s : Tm) : Prop where
 r : Kd.R k53 53 W B (fun k => B ≤ k) v l
 res : W.heap[w.heap.size]? = some (.cells #[.int .i64 0, .int .i64 0] 24 (0, 0))
 sum : W.heap[G]? = some (.cells #[.int .i64 s.f0, .int .i64 s.f1] 24 (0, 0))
 lo : w.heap.size < G
 hi : G < B
 below : Below w.heap.size w W
theorem Ts.step {w W W2 : World} {G B : Nat} {v : Value} {l : List Sn} {s : Tm} (h : Ts w W G B v l s) (hb : Below W.heap.size W W2) : Ts w W2 G B v l s :=
 ⟨Kd.R_below h.r hb, blk_below h.res hb, blk_below h.sum hb, h.lo, h.hi, h.below.trans (hb.mono h.below.size)⟩
theorem blk2 {w : World} {g : Nat} {t : TypeId} {a b x y : Value} (h : w.heap[g]? = some (.cells #[a, b] t (0, 0))) : ((w.setCell ⟨g, 0, none⟩ x).setCell ⟨g, 1, none⟩ y).heap[g]? = some (.cells #[x, y] t (0, 0)) :=
 blk_put (cs := #[x, b]) (blk_put (cs := #[a, b]) h 0 x rfl) 1 y rfl
theorem Ts.put {w W : World} {G B : Nat} {v : Value} {l : List Sn} {s : Tm} (h : Ts w W G B v l s) (n d : Int) : Ts w ((W.setCell ⟨G, 0, none⟩ (.int .i64 n)).setCell ⟨G, 1, none⟩ (.int .i64 d)) G B v l ⟨n, d⟩ := by
 have hk : ∀ k, k ≠ G → ((W.setCell ⟨G, 0, none⟩ (.int .i64 n)).setCell ⟨G, 1, none⟩ (.int .i64 d)).heap[k]? = W.heap[k]? := fun k hk => by
  rw [Below.heap_setCell _ _ _ _ (by simpa using hk), Below.heap_setCell _ _ _ _ (by simpa using hk)]
 refine ⟨Kd.R_step h.r (fun k h1 _ => hk k (by have := h.hi; omega)), ?_, blk2 h.sum, h.lo, h.hi, (h.below.setCell (by have := h.lo; exact Nat.le_of_lt this) _).setCell (by have := h.lo; exact Nat.le_of_lt this) _⟩
 rw [hk _ (by have := h.lo; omega)]
 exact h.res
set_option maxHeartbeats 8000000 in
set_option maxRecDepth 100000 in
theorem total_n (A0 : Option Addr) (c0 : Nat) (l : List Sn) (w : World) (hr : Kd.C k53 w A0 l.length l) (hl : l.length ≤ 1000000) :
  Calls Tryz.prog 16 #[.slice A0 l.length c0] w (ValP w (tT (totV l))) := by
 have hu := Tryz.underlying53
 have hu2 := Tryz.underlying24
 have HR := Aside0.mk (And.intro hr hl)
 have HV := Aside0.mk (show tT (totV l) = if allV l = true then tT (totR ⟨0, 1⟩ (clnL l)) else tT (⟨0, 0⟩, 4) by unfold totV; split <;> rfl)
 generalize tT (totV l) = V at *
 have hX := Aside0.mk (blk_new w (.cells #[.int .i64 0, .int .i64 0] 24 (0, 0)))
 have hB := Aside0.mk (show Below w.heap.size w (w.alloc (.cells #[.int .i64 0, .int .i64 0] 24 (0, 0))) from below_alloc (Below.refl _ w) _)
 clear hr hl
 go_enter Tryz.func16, Tryz.ntmps16
 go_upto_region 1 with fail
 generalize World.alloc w _ = W at *
 go_wp2_with fail
 refine (validSpans_n A0 c0 l W (Kd.C_below HR.out.1 hB.out) HR.out.2).mono ?_
 rintro e w3 ⟨rfl, hb3⟩
 have hB3 := Aside0.mk (And.intro (blk_below hX.out hb3) (hB.out.trans (hb3.mono hB.out.size)))
 clear hb3 hB hX
 obtain ⟨b, hb⟩ : ∃ b : Bool, b = allV l := ⟨_, rfl⟩
 rw [← hb]
 cases b with
 | false =>
  have HV2 := Aside0.mk (show V = tT (⟨0, 0⟩, 4) by rw [HV.out, ← hb, if_neg (by decide)])
  obtain ⟨p0, p1, f0, f1⟩ := time_cells hB3.out.1
  clear hb HV
  go_wp2_with fail
  refine bodyPost_ret (results_ct rfl _ _ w.heap.size 24 #[.int .i64 0, .int .i64 0] (0, 0) _ rfl (blk2 hB3.out.1) Tryz.underlying24 rfl (by kernel_rfl)) rfl ?_
  exact ⟨by rw [HV2.out]; rfl, (hB3.out.2.setCell (Nat.le_refl _) _).setCell (Nat.le_refl _) _⟩
 | true =>
  have HV2 := Aside0.mk (show V = tT (totR ⟨0, 1⟩ (clnL l)) by rw [HV.out, ← hb, if_pos rfl])
  have HA := Aside0.mk (show ∀ s ∈ l, vS s = true from fun s hs => List.all_eq_true.1 hb.symm s hs)
  clear hb HV
  go_upto_region 4 with fail
  have h4 := Aside0.mk (And.intro (blk_new w3 (.cells #[.int .i64 0, .int .i64 1] 24 (0, 0))) (show Below w3.heap.size w3 (w3.alloc (.cells #[.int .i64 0, .int .i64 1] 24 (0, 0))) from below_alloc (Below.refl _ w3) _))
  generalize hW4 : World.alloc w3 _ = W4 at h4
  have HG := Aside0.mk (show w.heap.size < w3.heap.size by have := lt_of_some hB3.out.1; exact this)
  have H4 := Aside0.mk (And.intro (blk_below hB3.out.1 h4.out.2) (And.intro h4.out.1 (hB3.out.2.trans (h4.out.2.mono hB3.out.2.size))))
  clear h4 hW4 hB3
  generalize w3.heap.size = G at *
  go_wp2_with fail
  refine (clean_n A0 c0 l W4 (Kd.C_below HR.out.1 H4.out.2.2) HR.out.2 HA.out).mono ?_
  rintro e w5 ⟨v5, rfl, hj⟩
  have HT := Aside0.mk (show Ts w w5 G W4.heap.size v5 (clnL l) ⟨0, 1⟩ from
   ⟨Kd.R_mono (Kd.R_bound hj.r) (fun k hk => hk.2.1), blk_below H4.out.1 hj.below, blk_below H4.out.2.1 hj.below, HG.out, lt_of_some H4.out.2.1, H4.out.2.2.trans (hj.below.mono H4.out.2.2.size)⟩)
  have HAV := Aside0.mk (show (∀ s ∈ clnL l, vS s = true) ∧ (clnL l).length ≤ 1000000 from ⟨Sz.clnL_v HA.out, by have := Sz.clnL_len l; have := HR.out.2; omega⟩)
  generalize clnL l = m at *
  obtain ⟨A5, c5, e5⟩ := Kd.R_slice HT.out.r
  subst e5
  clear hj H4 HR HA
  go_wp2_with fail
  go_loopg [8, 17] m.length (fun kq v8 v17 w' => ∃ (i : Int) (s : Tm), v17 = .int .i64 i ∧ Aside0 (0 ≤ i ∧ i + kq = m.length) ∧ Aside0 (Ts w w' G W4.heap.size (.slice A5 m.length c5) m s ∧ vT s = true) ∧ Aside0 (V = tT (totR s (m.drop i.toNat))))
  case atStart => exact ⟨0, ⟨0, 1⟩, rfl, ⟨by simp, by simp⟩, ⟨HT.out, by decide⟩, ⟨by simpa using HV2.out⟩⟩
  case round =>
   clear HT HV2
   obtain ⟨i, s, rfl, hi, hM, hL⟩ := hrel
   by_cases hlt : i < (m.length : Int)
   ·have p0 := hi.out.1
    have HD := Aside0.mk (any_drop (fun _ => true) m p0 hlt).2
    have HE := Aside0.mk (show m.drop i.toNat = rd_T53 m i :: m.drop (i + 1).toNat by
     have hn : i.toNat < m.length := by omega
     have hi2 : (i + 1).toNat = i.toNat + 1 := by omega
     have hg : rd_T53 m i = m[i.toNat] := by
      unfold rd_T53
      rw [List.getD_eq_getElem?_getD, List.getElem?_eq_getElem hn]
      rfl
     rw [hi2, hg, List.drop_eq_getElem_cons hn])
    obtain ⟨ad, hA, q0, q1, q2, q3⟩ := at_T53 (Kd.R_reads' hM.out.1.r).2.2 i p0 hlt
    obtain ⟨k1, rfl⟩ : ∃ k, gk = k + 1 := ⟨gk - 1, by have := hi.out.2; omega⟩
    have hwi : wrap64 (i + 1) = i + 1 := by
     have := HAV.out.2
     exact w64 (by omega) (by omega)
    have HX := Aside0.mk (vS_is (HAV.out.1 _ HD.out))
    generalize rd_T53 m i = X at *
    replace p0 := eq_true p0
    replace hlt := eq_true hlt
    subst hA
    have HL2 := Aside0.mk (show V = tT (totR s (X :: m.drop (i + 1).toNat)) by rw [hL.out, HE.out])
    obtain ⟨⟨⟨N0, D0⟩, E0⟩, h0⟩ : ∃ r, tmT (qT X.f1 - qT X.f0) = r := ⟨_, rfl⟩
    have H0 := Aside0.mk h0
    clear h0 hL
    go_upto_region 7 with fail
    have hB := Aside0.mk (show Below wr.heap.size wr (wr.alloc (snO X)) from below_alloc (Below.refl _ wr) _)
    have hX := Aside0.mk (show (wr.alloc (snO X)).heap[wr.heap.size]? = some (snO X) from blk_new wr _)
    unfold snO at hB hX
    generalize hW1 : World.alloc wr _ = W1 at hB hX
    have HS := Aside0.mk (And.intro (show W1.heap[wr.heap.size]? = some (snO X) from hX.out) (hM.out.1.step hB.out))
    have HO := Aside0.mk hM.out.2
    clear hX hB hM hW1 q0 q1 q2 q3
    generalize wr.heap.size = G6 at *
    obtain ⟨q0, q1, q2, q3⟩ := sn_at (s := X) HS.out.1
    go_wp2_with fail
    refine (sub_n HX.out.2.1 HX.out.1 H0.out W1).mono ?_
    rintro e w5 ⟨rfl, hb5⟩
    have HS5 := Aside0.mk (HS.out.2.step hb5)
    clear hb5 HS q0 q1 q2 q3
    go_upto_region 8 with fail
    have hB := Aside0.mk (show Below w5.heap.size w5 (w5.alloc (.cells #[.int .i64 N0, .int .i64 D0] 24 (0, 0))) from below_alloc (Below.refl _ w5) _)
    have hX := Aside0.mk (blk_new w5 (.cells #[.int .i64 N0, .int .i64 D0] 24 (0, 0)))
    generalize hW1 : World.alloc w5 _ = W6 at hB hX
    have HS6 := Aside0.mk (And.intro hX.out (HS5.out.step hB.out))
    clear hX hB hW1 HS5
    generalize w5.heap.size = G7 at *
    by_cases h0 : E0 = 0
    ·subst h0
     obtain ⟨⟨⟨N1, D1⟩, E1⟩, h1⟩ : ∃ r, tmT (qT s + qT ⟨N0, D0⟩) = r := ⟨_, rfl⟩
     have H1 := Aside0.mk h1
     clear h1
     have hv0 := vT_tm H0.out rfl
     have HV0 := Aside0.mk hv0
     clear hv0
     obtain ⟨a0, a1, _, _⟩ := time_cells HS6.out.1
     obtain ⟨b0, b1, bf0, bf1⟩ := time_cells HS6.out.2.sum
     go_wp2_with fail
     refine (sum_n HO.out HV0.out H1.out W6).mono ?_
     rintro e w7 ⟨rfl, hb7⟩
     have HS7 := Aside0.mk (HS6.out.2.step hb7)
     clear hb7 HS6 a0 a1 b0 b1 bf0 bf1
     obtain ⟨b0, b1, bf0, bf1⟩ := time_cells HS7.out.sum
     go_upto_region 10 with fail
     generalize hW8 : World.setCell (World.setCell w7 _ _) _ _ = W8
     have HS8 := Aside0.mk (show Ts w W8 G W4.heap.size (.slice (some ad) m.length c5) m ⟨N1, D1⟩ by rw [← hW8]; exact HS7.out.put N1 D1)
     clear hW8 HS7 b0 b1 bf0 bf1
     by_cases h1 : E1 = 0
     ·subst h1
      have HV3 := Aside0.mk (show V = tT (totR ⟨N1, D1⟩ (m.drop (i + 1).toNat)) by
       rw [HL2.out, totR, H0.out, H1.out, if_pos rfl, if_pos rfl])
      have HVN := Aside0.mk (vT_tm H1.out rfl)
      clear HL2
      go_wp2_with fail
      go_roundg k1
      case measure => omega
      case rel => exact ⟨i + 1, ⟨N1, D1⟩, by rw [hwi], ⟨by have := hi.out; omega, by have := hi.out; omega⟩, ⟨HS8.out, HVN.out⟩, HV3⟩
     ·have hb1 : (E1 != 0) = true := bne_iff_ne.mpr h1
      have HV3 := Aside0.mk (show V = tT (⟨0, 0⟩, E1) by rw [HL2.out, totR, H0.out, H1.out, if_pos rfl, if_neg h1])
      clear HL2 h1
      obtain ⟨r0, r1, rf0, rf1⟩ := time_cells HS8.out.res
      go_wp2_with fail
      refine bodyPost_ret (results_ct rfl _ _ w.heap.size 24 #[.int .i64 0, .int .i64 0] (0, 0) _ rfl (blk2 HS8.out.res) Tryz.underlying24 rfl (by kernel_rfl)) rfl ?_
      exact ⟨by rw [HV3.out]; rfl, (HS8.out.below.setCell (Nat.le_refl _) _).setCell (Nat.le_refl _) _⟩
    ·have hb0 : (E0 != 0) = true := bne_iff_ne.mpr h0
     have hb1 : (E0 == 0) = false := beq_eq_false_iff_ne.mpr h0
     have HV3 := Aside0.mk (show V = tT (⟨0, 0⟩, E0) by rw [HL2.out, totR, H0.out, if_neg h0])
     clear HL2 h0
     obtain ⟨r0, r1, rf0, rf1⟩ := time_cells HS6.out.2.res
     go_wp2_with fail
     refine bodyPost_ret (results_ct rfl _ _ w.heap.size 24 #[.int .i64 0, .int .i64 0] (0, 0) _ rfl (blk2 HS6.out.2.res) Tryz.underlying24 rfl (by kernel_rfl)) rfl ?_
     exact ⟨by rw [HV3.out]; rfl, (HS6.out.2.below.setCell (Nat.le_refl _) _).setCell (Nat.le_refl _) _⟩
   ·have hlb : decide (i < (m.length : Int)) = false := decide_eq_false hlt
    have HV3 := Aside0.mk (show V = tT (s, 0) by
     rw [hL.out, List.drop_of_length_le (by have := hi.out; omega), totR])
    obtain ⟨r0, r1, rf0, rf1⟩ := time_cells hM.out.1.res
    obtain ⟨b0, b1, bf0, bf1⟩ := time_cells hM.out.1.sum
    have HB := Aside0.mk hM.out.1
    replace hlt := eq_false hlt
    clear hL hM hi
    go_wp2_with fail
    refine bodyPost_ret (results_ct rfl _ _ w.heap.size 24 #[.int .i64 s.f0, .int .i64 s.f1] (0, 0) _ rfl (blk2 HB.out.res) Tryz.underlying24 rfl (by kernel_rfl)) rfl ?_
    exact ⟨by rw [HV3.out]; rfl, (HB.out.below.setCell (Nat.le_refl _) _).setCell (Nat.le_refl _) _⟩
def exact_Total.f (l : List Sn) : Option (Int × Int × Int) := if l.length ≤ 1000000 then some ((totV l).1.f0, (totV l).1.f1, (totV l).2) else none
theorem exact_Total.calls (A0 : Option Addr) (c0 : Nat) (l0 : List Sn) (r1 r2 r3 : Int) (w : World) (hr0 : Kd.C k53 w A0 l0.length l0) (hc0 : l0.length ≤ c0) (h : exact_Total.f l0 = some (r1, r2, r3)) :
  Calls Tryz.prog 16 #[.slice A0 l0.length c0] w fun e w' => e = .returned (.tuple #[.agg #[.int .i64 r1, .int .i64 r2], .int .i64 r3]) ∧ Below w.heap.size w w' := by
 unfold exact_Total.f at h
 by_cases hl : l0.length ≤ 1000000
 ·rw [if_pos hl] at h
  have h1 := Option.some.inj h
  simp only [Prod.mk.injEq] at h1
  obtain ⟨rfl, rfl, rfl⟩ := h1
  exact total_n A0 c0 l0 w hr0 hl
 ·rw [if_neg hl] at h
  cases h
end Go.Proofs.YtekommcfpjonmaaGreat.E
namespace Go.Proofs.YtekommcfpjonmaaGreat.E
open Go.RowKit Go Go.Proofs.YtekommcfpjonmaaGreatW.PrintWords Go.Proofs.YtekommcfpjonmaaGreatW.PrintLast Go.Proofs.YtekommcfpjonmaaGreatW.PrintMore Go.Proofs.YtekommcfpjonmaaGreat.Mn Go.Proofs.YtekommcfpjonmaaGreat.Nd Go.Proofs.YtekommcfpjonmaaGreat.Z Go.Proofs.YtekommcfpjonmaaGreat.Rf Go.Proofs.YtekommcfpjonmaaGreat.Sg Go.Proofs.YtekommcfpjonmaaGreat.Sx Go.Proofs.YtekommcfpjonmaaGreat.Sy Go.Proofs.YtekommcfpjonmaaGreat.Xv Go.Proofs.YtekommcfpjonmaaGreat.Xn Go.Proofs.YtekommcfpjonmaaGreat.Xp
set_option linter.unusedVariables false
set_option linter.unusedSimpArgs false
set_option maxHeartbeats 2000000 in
theorem Clean_n (A0 : Option Addr) (c0 : Nat) (l : List Sn) (w : World) (hr : Kd.C k53 w A0 l.length l) (hl : l.length ≤ 1000000) :
  Calls Tryz.prog 14 #[.slice A0 l.length c0] w (fun e w' => ∃ v, e = .returned (.tuple #[v, .int .i64 (clnV l).2]) ∧ Js w w' v (clnV l).1) := by
 have HR := Aside0.mk (And.intro hr hl)
 have HV := Aside0.mk (show clnV l = if allV l = true then (clnL l, 0) else ([], 4) from rfl)
 generalize clnV l = V at *
 clear hr hl
 go_enter Tryz.func14, Tryz.ntmps14
 go_wp2_with fail
 refine (validSpans_n A0 c0 l w HR.out.1 HR.out.2).mono ?_
 rintro e w3 ⟨rfl, hb3⟩
 have hB3 := Aside0.mk hb3
 clear hb3
 obtain ⟨b, hb⟩ : ∃ b : Bool, b = allV l := ⟨_, rfl⟩
 rw [← hb]
 cases b with
 | false =>
  have HV2 := Aside0.mk (show V = ([], 4) by rw [HV.out, ← hb, if_neg (by decide)])
  clear hb HV
  go_wp2_with fail
  go_ret2
  exact ⟨_, by rw [HV2.out]; rfl, by rw [HV2.out]; exact Kd.R_nil _ _ _ _ _, hB3.out⟩
 | true =>
  have HV2 := Aside0.mk (show V = (clnL l, 0) by rw [HV.out, ← hb, if_pos rfl])
  have HA := Aside0.mk (show ∀ s ∈ l, vS s = true from fun s hs => List.all_eq_true.1 hb.symm s hs)
  clear hb HV
  go_wp2_with fail
  refine (clean_n A0 c0 l w3 (Kd.C_below HR.out.1 hB3.out) HR.out.2 HA.out).mono ?_
  rintro e w4 ⟨v, rfl, hj⟩
  have HJ := Aside0.mk hj
  clear hj
  go_wp2_with fail
  go_ret2
  refine ⟨_, by rw [HV2.out]; rfl, ?_⟩
  rw [HV2.out]
  exact ⟨Kd.R_lower HJ.out.r hB3.out.size, hB3.out.trans (HJ.out.below.mono hB3.out.size)⟩
def exact_Clean.f (l : List Sn) : Option (List Sn × Int) := if l.length ≤ 1000000 then some (clnV l) else none
theorem exact_Clean.calls (A0 : Option Addr) (c0 : Nat) (l0 : List Sn) (r1 : List Sn) (r2 : Int) (w : World) (hr0 : Kd.C k53 w A0 l0.length l0) (hc0 : l0.length ≤ c0) (h : exact_Clean.f l0 = some (r1, r2)) :
  Calls Tryz.prog 14 #[.slice A0 l0.length c0] w fun e w' => ∃ v, e = .returned (.tuple #[v, .int .i64 r2]) ∧ Kd.R k53 53 w' w.heap.size (fun _ => True) v r1 ∧ Below w.heap.size w w' := by
 unfold exact_Clean.f at h
 by_cases hl : l0.length ≤ 1000000
 ·rw [if_pos hl] at h
  have h1 := Option.some.inj h
  refine (Clean_n A0 c0 l0 w hr0 hl).mono ?_
  rw [h1]
  rintro e w' ⟨v, rfl, hj⟩
  exact ⟨v, rfl, hj.r, hj.below⟩
 ·rw [if_neg hl] at h
  cases h
end Go.Proofs.YtekommcfpjonmaaGreat.E
namespace Go.Proofs.YtekommcfpjonmaaGreat.Rl
open Go.RowKit Go Go.Proofs.YtekommcfpjonmaaGreatW.PrintWords Go.Proofs.YtekommcfpjonmaaGreatW.PrintLast Go.Proofs.YtekommcfpjonmaaGreatW.PrintMore Go.Proofs.YtekommcfpjonmaaGreat.Mn Go.Proofs.YtekommcfpjonmaaGreat.Rf Go.Proofs.YtekommcfpjonmaaGreat.E Go.Proofs.YtekommcfpjonmaaGreat.Qr Go.Proofs.YtekommcfpjonmaaGreat.Qt Go.Proofs.YtekommcfpjonmaaGreat.Qu Go.Proofs.YtekommcfpjonmaaGreat.Sg Go.Proofs.YtekommcfpjonmaaGreat.Sx Go.Proofs.YtekommcfpjonmaaGreat.Sy Go.Proofs.YtekommcfpjonmaaGreat.Sz Go.Proofs.YtekommcfpjonmaaGreat.Rj Go.Proofs.YtekommcfpjonmaaGreat.Rk
set_option linter.unusedVariables false
set_option linter.unusedSimpArgs false
theorem tmV_T (q : Rat) : ((tmV q).1.1, (tmV q).1.2, (tmV q).2) = ((tmT q).1.f0, (tmT q).1.f1, (tmT q).2) := by
 unfold tmV tmT vT lT
 split <;> rfl
theorem addR_f {a b : Tm} (ha : vT a = true) (hb : vT b = true) : Ev (fun k => dioramaref02_Add.f k a.f0 a.f1 b.f0 b.f1) ((tmT (qT a + qT b)).1.f0, (tmT (qT a + qT b)).1.f1, (tmT (qT a + qT b)).2) := by
 have h := Add_f a.f0 a.f1 b.f0 b.f1
 have e : addV a.f0 a.f1 b.f0 b.f1 = tmV (qT a + qT b) := if_pos ⟨ha, hb⟩
 rw [e, tmV_T] at h
 exact h
theorem subR_f {a b : Tm} (ha : vT a = true) (hb : vT b = true) : Ev (fun k => dioramaref02_Sub.f k a.f0 a.f1 b.f0 b.f1) ((tmT (qT a - qT b)).1.f0, (tmT (qT a - qT b)).1.f1, (tmT (qT a - qT b)).2) := by
 have hf : ∀ k, dioramaref02_Sub.f k a.f0 a.f1 b.f0 b.f1 = dioramaref02_Sub.j0 k false a.f0 a.f1 b.f0 b.f1 := by
  intro k
  unfold dioramaref02_Sub.f
  rw [rvalid_f, rvalid_f]
  simp only [Option.bind_some]
  rw [show Ea.valid a.f0 a.f1 = true from ha, show Ea.valid b.f0 b.f1 = true from hb]
  rfl
 refine Ev.congr hf (Ev.step (fun k => by rw [dioramaref02_Sub.j0]) (Ev.congr (fun k => if_neg (by decide)) ?_))
 obtain ⟨b1, x1, y1, e1, v1⟩ := rat_f ha
 obtain ⟨b2, x2, y2, e2, v2⟩ := rat_f hb
 obtain ⟨b3, x3, y3, e3, v3⟩ := sumR_f v1 v2.neg (by decide)
 have e4 := time_f v3 (by decide)
 rw [← Rat.sub_eq_add_neg, tmV_T] at e4
 exact Ev.bind e2 (Ev.bind e1 (Ev.bind e3 (Ev.bind e4 (Ev.now _))))
theorem eqSpans_f (l : List Sn) (hl : l.length ≤ 1000000) : Ev (fun k => dioramaref02_EqSpans.f k l l) true := by
 have key : ∀ (n : Nat) (i : Int), 0 ≤ i → i + n = l.length → Ev (fun k => dioramaref02_EqSpans.l0 k l l i) true := by
  intro n
  induction n with
  | zero =>
   intro i h0 hi
   exact Ev.step (fun k => by rw [dioramaref02_EqSpans.l0]) (Ev.congr (fun k => if_neg (by omega)) (Ev.now _))
  | succ n ih =>
   intro i h0 hi
   refine Ev.step (fun k => by rw [dioramaref02_EqSpans.l0]) (Ev.congr (fun k => if_pos (by omega)) (Ev.congr (fun k => if_pos h0) (Ev.congr (fun k => if_pos (by omega)) ?_)))
   refine Ev.congr (fun k => if_neg (by simp)) ?_
   exact Ev.congr (fun k => by rw [w64 (by omega) (by omega)]) (ih (i + 1) (by omega) (by omega))
 exact Ev.congr (fun k => if_pos rfl) (key l.length 0 (by omega) (by omega))
def comV (how : Int) (a b : List Sn) : List Sn × Int := if allV a = true ∧ allV b = true then ((joQ how (a.map qS) (b.map qS)).map lS, 0) else ([], 4)
theorem combined_f {a b : List Sn} {how : Int} (hh : how = 0 ∨ how = 1 ∨ how = 2) (la : a.length ≤ 400) (lb : b.length ≤ 400) : Ev (fun k => dioramaref02_combined.f k a b how) (comV how a b) := by
 have h1 := areSpans_f a (by omega)
 have h2 := areSpans_f b (by omega)
 unfold comV
 refine Ev.bind h1 ?_
 cases ha : allV a with
 | false =>
  rw [if_neg (fun h => by cases h.1)]
  exact Ev.congr (fun k => if_neg (by decide)) (Ev.now _)
 | true =>
  refine Ev.congr (fun k => if_pos rfl) (Ev.bind h2 ?_)
  cases hb : allV b with
  | false =>
   rw [if_neg (fun h => by cases h.2)]
   exact Ev.congr (fun k => if_neg (by decide)) (Ev.now _)
  | true =>
   rw [if_pos ⟨rfl, rfl⟩]
   exact Ev.congr (fun k => if_pos rfl) (Ev.bind (joined_f hh la lb (of_allV ha) (of_allV hb)) (Ev.now _))
theorem com_clean (l : List Sn) : comV 0 l [] = clnV l := by
 unfold comV clnV
 rw [show allV [] = true from rfl, List.map_nil, clean_jo]
 simp
theorem rclean_f {l : List Sn} (hl : l.length ≤ 400) : Ev (fun k => dioramaref02_Clean.f k l) (clnV l) := by
 have := combined_f (a := l) (b := []) (how := 0) (.inl rfl) hl (by simp)
 rw [com_clean] at this
 exact Ev.bind this (Ev.now _)
theorem rhas_f {l : List Sn} {n d : Int} (hl : l.length ≤ 400) : Ev (fun k => dioramaref02_Has.f k l n d) (hasV l ⟨n, d⟩) := by
 have h1 := areSpans_f l (by omega)
 unfold hasV
 refine Ev.bind h1 ?_
 cases ha : allV l with
 | false =>
  rw [if_neg (fun h => by cases h.1)]
  exact Ev.congr (fun k => if_neg (by decide)) (Ev.now _)
 | true =>
  refine Ev.congr (fun k => if_pos rfl) ?_
  refine Ev.congr (f := fun k => if vT ⟨n, d⟩ = true then ((dioramaref02_inside.f k l n d).bind fun t537 => (some (t537, 0))) else (some (false, 4))) (fun k => by rw [rvalid_f]; rfl) ?_
  by_cases ht : vT ⟨n, d⟩ = true
  ·rw [if_pos ⟨rfl, ht⟩]
   refine Ev.congr (fun k => if_pos ht) ?_
   have := inside_f (l := l) (t := ⟨n, d⟩) (by omega) (of_allV ha) ht
   rw [← any_B] at this
   exact Ev.bind this (Ev.now _)
  ·rw [if_neg (fun h => ht h.2)]
   exact Ev.congr (fun k => if_neg ht) (Ev.now _)
theorem rtotal_f {l : List Sn} (hl : l.length ≤ 400) : Ev (fun k => dioramaref02_Total.f k l) ((totV l).1.f0, (totV l).1.f1, (totV l).2) := by
 refine Ev.bind (rclean_f hl) ?_
 unfold clnV totV
 by_cases ha : allV l = true
 ·rw [if_pos ha, if_pos ha]
  refine Ev.congr (fun k => if_pos rfl) ?_
  have hv := clnL_v (of_allV ha)
  have hn := clnL_len l
  simp only
  generalize clnL l = m at *
  have key : ∀ (n : Nat) (i : Int) (s : Tm), vT s = true → 0 ≤ i → i + n = m.length → Ev (fun k => dioramaref02_Total.l0 k m i s.f0 s.f1) ((totR s (m.drop i.toNat)).1.f0, (totR s (m.drop i.toNat)).1.f1, (totR s (m.drop i.toNat)).2) := by
   intro n
   induction n with
   | zero =>
    intro i s hs h0 hi
    refine Ev.step (fun k => by rw [dioramaref02_Total.l0]) (Ev.congr (fun k => if_neg (by omega)) ?_)
    rw [List.drop_of_length_le (by omega), totR]
    exact Ev.now _
   | succ n ih =>
    intro i s hs h0 hi
    refine Ev.step (fun k => by rw [dioramaref02_Total.l0]) (Ev.congr (fun k => if_pos (by omega)) (Ev.congr (fun k => if_pos h0) ?_))
    obtain ⟨e, hm⟩ := rd_at m h0 (by omega)
    rw [e, totR]
    have hX := vS_is (hv _ hm)
    have ih' := fun s hs => ih (i + 1) s hs (by omega) (by omega)
    generalize rd_T53 m i = X at *
    refine Ev.bind (subR_f hX.2.1 hX.1) ?_
    by_cases h1 : (tmT (qT X.f1 - qT X.f0)).2 = 0
    ·have hv1 : vT (tmT (qT X.f1 - qT X.f0)).1 = true := by
      have := tmT_v h1
      rw [this.1]
      exact this.2
     rw [if_pos h1]
     refine Ev.congr (fun k => if_pos h1) (Ev.bind (addR_f hs hv1) ?_)
     by_cases h2 : (tmT (qT s + qT (tmT (qT X.f1 - qT X.f0)).1)).2 = 0
     ·have hv2 : vT (tmT (qT s + qT (tmT (qT X.f1 - qT X.f0)).1)).1 = true := by
       have := tmT_v h2
       rw [this.1]
       exact this.2
      rw [if_pos h2]
      refine Ev.congr (fun k => if_pos h2) ?_
      exact Ev.congr (fun k => by rw [w64 (by omega) (by omega)]) (ih' _ hv2)
     ·rw [if_neg h2]
      exact Ev.congr (fun k => if_neg h2) (Ev.now _)
    ·rw [if_neg h1]
     exact Ev.congr (fun k => if_neg h1) (Ev.now _)
  exact key m.length 0 ⟨0, 1⟩ (by decide) (by omega) (by omega)
 ·rw [if_neg ha, if_neg ha]
  exact Ev.congr (fun k => if_neg (by decide)) (Ev.now _)
end Go.Proofs.YtekommcfpjonmaaGreat.Rl
namespace Go.Proofs.YtekommcfpjonmaaGreat.E
open Go.Proofs.YtekommcfpjonmaaGreat.Z Go.RowKit Go.Proofs.YtekommcfpjonmaaGreatW.PrintWords Go.Proofs.YtekommcfpjonmaaGreatW.PrintLast Go.Proofs.YtekommcfpjonmaaGreatW.PrintMore
attribute [local go_sem] max2_int min2_int max_two min_two max_three min_three max_four min_four
set_option linter.unusedVariables false
set_option linter.unusedSimpArgs false
attribute [local go_sem high] eqA24
def dioramalaw02_ExactCleans.f (k : Nat) (l0 : List (S53)) (a1_0 : Int) (a1_1 : Int) : Option (Bool) := (dioramalaw02_many.f l0).bind fun t539 => (if t539 = true then ((dioramalaw02_awake.f).bind fun t540 => (some t540)) else ((exact_Clean.f l0).bind fun bt541 => ((dioramaref02_Clean.f k l0).bind fun bt545 => ((exact_Total.f l0).bind fun bt549 => ((dioramaref02_Total.f k l0).bind fun bt553 => ((exact_Has.f l0 a1_0 a1_1).bind fun bt557 => ((dioramaref02_Has.f k l0 a1_0 a1_1).bind fun bt559 => ((dioramaref02_EqSpans.f k bt541.1 bt545.1).bind fun t561 => (if t561 = true then (if bt541.2 = bt545.2 then (if (bt549.1 == bt553.1 && (bt549.2.1 == bt553.2.1)) = true then (if bt549.2.2 = bt553.2.2 then (if (bt557.1 == bt559.1) = true then (if bt557.2 = bt559.2 then ((dioramalaw02_awake.f).bind fun t562 => (some t562)) else (some false)) else (some false)) else (some false)) else (some false)) else (some false)) else (some false))))))))))
set_option maxHeartbeats 8000000 in
set_option maxRecDepth 100000 in
theorem dioramalaw02_ExactCleans.calls (k : Nat) (A0 : Option Addr) (c0 : Nat) (l0 : List (S53)) (a1_0 : Int) (a1_1 : Int) (r : Bool) (w : World) (hr0 : Kd.C k53 w A0 l0.length l0) (hc0 : l0.length ≤ c0) (h : dioramalaw02_ExactCleans.f k l0 a1_0 a1_1 = some r) :
  Calls Tryz.prog 4 #[.slice A0 l0.length c0, .agg #[.int .i64 a1_0, .int .i64 a1_1]] w fun e w' => e = .returned (.bool r) ∧ Below w.heap.size w w' := by
 have hu24 := Tryz.underlying24; have HR0 := Aside0.mk hr0; have HC0 := Aside0.mk hc0; clear hr0 hc0; have HB := Aside0.mk (Below.refl w.heap.size w); have H : ((dioramalaw02_many.f l0).bind fun t539 => (if t539 = true then ((dioramalaw02_awake.f).bind fun t540 => (some t540)) else ((exact_Clean.f l0).bind fun bt541 => ((dioramaref02_Clean.f k l0).bind fun bt545 => ((exact_Total.f l0).bind fun bt549 => ((dioramaref02_Total.f k l0).bind fun bt553 => ((exact_Has.f l0 a1_0 a1_1).bind fun bt557 => ((dioramaref02_Has.f k l0 a1_0 a1_1).bind fun bt559 => ((dioramaref02_EqSpans.f k bt541.1 bt545.1).bind fun t561 => (if t561 = true then (if bt541.2 = bt545.2 then (if (bt549.1 == bt553.1 && (bt549.2.1 == bt553.2.1)) = true then (if bt549.2.2 = bt553.2.2 then (if (bt557.1 == bt559.1) = true then (if bt557.2 = bt559.2 then ((dioramalaw02_awake.f).bind fun t562 => (some t562)) else (some false)) else (some false)) else (some false)) else (some false)) else (some false)) else (some false))))))))))) = some r := h
 clear h; obtain ⟨t539, A3, H⟩ := ob H
 by_cases c4 : t539 = true
 ·subst c4; rw [if_pos rfl] at H; obtain ⟨t540, A5, H⟩ := ob H; obtain rfl := Option.some.inj H
  go_enter Tryz.func4, Tryz.ntmps4
  go_wp2_with (first | ((with_reducible refine gate_dst (N := 3) rfl ?_); refine zB 3 24 #[.int .i64 a1_0, .int .i64 a1_1] ?_; intro gb538 hg w6 hbox hb; have BK538 := Aside0.mk hbox; have GW538 := gz hg; have GE538 := gz hg; replace HB := bp hb; clear hb hbox hg) | ((with_reducible refine gate_callee (f := 9) rfl ?_); refine zC 18 Tryz.func9 #[.slice A0 l0.length c0] ?_; (with_reducible refine (dioramalaw02_many.calls _ _ l0 true _ ?side1 ?side2 A3.out).mono ?_); (case side1 => exact cz HR0); (case side2 => exact HC0.out); rintro e w' ⟨rfl, ⟨nd, rfl⟩⟩; refine ⟨_, rfl, ?_⟩) | ((with_reducible refine gate_callee (f := 10) rfl ?_); refine zC 19 Tryz.func10 #[] ?_; (with_reducible refine (dioramalaw02_awake.calls  t540 _ A5.out).mono ?_); rintro e w7 ⟨rfl, hb⟩; refine ⟨_, rfl, ?_⟩; replace BK538 := kb BK538 hb; replace HB := bp hb; clear hb))
  go_ret
  exact ⟨ez, bz⟩
 ·obtain rfl := bf c4; rw [if_neg (show ¬ (false = true) by decide)] at H; obtain ⟨⟨t541, t542⟩, A8, H⟩ := ob H
  (try dsimp only at H)
  obtain ⟨⟨t545, t546⟩, A9, H⟩ := ob H
  (try dsimp only at H)
  obtain ⟨⟨t549, t550, t551⟩, A10, H⟩ := ob H
  (try dsimp only at H)
  obtain ⟨⟨t553, t554, t555⟩, A11, H⟩ := ob H
  (try dsimp only at H)
  obtain ⟨⟨t557, t558⟩, A12, H⟩ := ob H
  (try dsimp only at H)
  obtain ⟨⟨t559, t560⟩, A13, H⟩ := ob H
  (try dsimp only at H)
  obtain ⟨t561, A14, H⟩ := ob H
  by_cases c15 : t561 = true
  ·subst c15; rw [if_pos rfl] at H
   by_cases c16 : t542 = t546
   ·rw [if_pos c16] at H; have c16b0 : (t542 == t546) = true := beq_iff_eq.mpr c16; have c16b1 : (t542 != t546) = false := bne_eq_false_iff_eq.mpr c16; clear c16
    by_cases c17 : (t549 == t553 && (t550 == t554)) = true
    ·rw [if_pos c17] at H; have c17b0 : (t549 == t553 && (t550 == t554)) = true := c17
     (try (have c17b1 : decide (t549 = t553 && (t550 == t554)) = true := by simpa using c17))
     (try (have c17b2 : (t549 == t553 && (t550 == t554)) = true := by simpa using c17))
     clear c17
     by_cases c18 : t551 = t555
     ·rw [if_pos c18] at H; have c18b0 : (t551 == t555) = true := beq_iff_eq.mpr c18; have c18b1 : (t551 != t555) = false := bne_eq_false_iff_eq.mpr c18; clear c18
      by_cases c19 : (t557 == t559) = true
      ·rw [if_pos c19] at H; have c19b0 : (t557 == t559) = true := c19
       (try (have c19b1 : decide (t557 = t559) = true := by simpa using c19))
       (try (have c19b2 : (t557 == t559) = true := by simpa using c19))
       clear c19
       by_cases c20 : t558 = t560
       ·rw [if_pos c20] at H; have c20b0 : (t558 == t560) = true := beq_iff_eq.mpr c20; have c20b1 : (t558 != t560) = false := bne_eq_false_iff_eq.mpr c20; clear c20; obtain ⟨t562, A21, H⟩ := ob H; obtain rfl := Option.some.inj H
        go_enter Tryz.func4, Tryz.ntmps4
        go_wp2_with (first | ((with_reducible refine gate_dst (N := 3) rfl ?_); refine zB 3 24 #[.int .i64 a1_0, .int .i64 a1_1] ?_; intro gb538 hg w22 hbox hb; have BK538 := Aside0.mk hbox; have GW538 := gz hg; have GE538 := gz hg; replace HB := bp hb; clear hb hbox hg) | ((with_reducible refine gate_callee (f := 9) rfl ?_); refine zC 18 Tryz.func9 #[.slice A0 l0.length c0] ?_; (with_reducible refine (dioramalaw02_many.calls _ _ l0 false _ ?side1 ?side2 A3.out).mono ?_); (case side1 => exact cz HR0); (case side2 => exact HC0.out); rintro e w' ⟨rfl, ⟨nd, rfl⟩⟩; refine ⟨_, rfl, ?_⟩; (try (rw [drewN_self w22]; generalize hq_ : World.drewN w22 _ = w22; have n0_ : Aside0 (w22.heap[gb538]? = some (.cells #[.int .i64 a1_0, .int .i64 a1_1] 24 (0, 0))) := ⟨by rw [← hq_]; exact kz⟩; have n1_ : Aside0 (Below w.heap.size w w22) := ⟨by rw [← hq_]; exact bz⟩; clear BK538 HB hq_; have BK538 := n0_; have HB := n1_; clear n0_ n1_))) | ((with_reducible refine gate_callee (f := 14) rfl ?_); refine zC 22 Tryz.func14 #[.slice A0 l0.length c0] ?_; (with_reducible refine (exact_Clean.calls _ _ l0 t541 t542 _ ?side1 ?side2 A8.out).mono ?_); (case side1 => exact cz HR0); (case side2 => exact HC0.out); rintro e w23 ⟨v543, rfl, ho0, hb⟩; refine ⟨_, rfl, ?_⟩; have HO544 := Aside0.mk (Kd.R_lower ho0 sz); replace BK538 := kb BK538 hb; replace HB := bp hb; clear hb ho0) | ((with_reducible refine gate_callee (f := 15) rfl ?_); refine zC 27 Tryz.func15 #[.slice A0 l0.length c0] ?_; (with_reducible refine (dioramaref02_Clean.calls k _ _ l0 t545 t546 _ ?side1 ?side2 A9.out).mono ?_); (case side1 => exact cz HR0); (case side2 => exact HC0.out); rintro e w24 ⟨v547, rfl, ho0, hb⟩; refine ⟨_, rfl, ?_⟩; have HO548 := Aside0.mk (Kd.R_lower (Kd.R_new' ho0 (Kd.R_lt (rz HO544))) sz); replace HO544 := Aside0.mk (Kd.R_elder' (rz HO544) (Kd.R_base ho0) hb); replace BK538 := kb BK538 hb; replace HB := bp hb; clear hb ho0) | ((with_reducible refine gate_callee (f := 16) rfl ?_); refine zC 32 Tryz.func16 #[.slice A0 l0.length c0] ?_; (with_reducible refine (exact_Total.calls _ _ l0 t549 t550 t551 _ ?side1 ?side2 A10.out).mono ?_); (case side1 => exact cz HR0); (case side2 => exact HC0.out); rintro e w25 ⟨rfl, hb⟩; refine ⟨_, rfl, ?_⟩; replace HO544 := Aside0.mk (Kd.R_below (rz HO544) hb); replace HO548 := Aside0.mk (Kd.R_below (rz HO548) hb); replace BK538 := kb BK538 hb; replace HB := bp hb; clear hb) | ((with_reducible refine gate_dst (N := 9) rfl ?_); refine zB 9 24 #[.int .i64 0, .int .i64 0] ?_; intro gb552 hg w26 hbox hb; replace HO544 := Aside0.mk (Kd.R_below (rz HO544) hb); replace HO548 := Aside0.mk (Kd.R_below (rz HO548) hb); have BK552 := Aside0.mk hbox; have GW552 := gz hg; have GE552 := gz hg; replace HB := bp hb; have NB538_552 := Aside0.mk ((by rw [hg]; exact Nat.ne_of_lt (bl BK538) : gb538 ≠ gb552)); have NB552_538 := Aside0.mk ((by rw [hg]; exact Nat.ne_of_gt (bl BK538) : gb552 ≠ gb538)); replace BK538 := kb BK538 hb; clear hb hbox hg; have hnb27 := NB552_538.out; have hnc27 := NB538_552.out; obtain ⟨hcz28_0, hcz28_1, hfz28_0, hfz28_1⟩ := xc2 BK552) | ((with_reducible refine gate_callee (f := 17) rfl ?_); refine zC 37 Tryz.func17 #[.slice A0 l0.length c0] ?_; (with_reducible refine (dioramaref02_Total.calls k _ _ l0 t553 t554 t555 _ ?side1 ?side2 A11.out).mono ?_); (case side1 => exact Kd.C_below HR0.out bz); (case side2 => exact HC0.out); rintro e w29 ⟨rfl, hb⟩; refine ⟨_, rfl, ?_⟩; replace HO544 := Aside0.mk (Kd.R_below (by (with_reducible repeat (first | apply Kd.R_alloc | apply Kd.R_drewN | apply Kd.R_drew)); exact (Kd.R_mono (Kd.R_far (p := ⟨gb552, 1, none⟩) (Kd.R_far (p := ⟨gb552, 0, none⟩) (Kd.R_types HO544.out BK552.out (by decide)) (fun _ hk => hk.2) (.int .i64 t549)) (fun _ hk => hk.2) (.int .i64 t550)) (fun _ h_ => h_.1))) hb); replace HO548 := Aside0.mk (Kd.R_below (by (with_reducible repeat (first | apply Kd.R_alloc | apply Kd.R_drewN | apply Kd.R_drew)); exact (Kd.R_mono (Kd.R_far (p := ⟨gb552, 1, none⟩) (Kd.R_far (p := ⟨gb552, 0, none⟩) (Kd.R_types HO548.out BK552.out (by decide)) (fun _ hk => hk.2) (.int .i64 t549)) (fun _ hk => hk.2) (.int .i64 t550)) (fun _ h_ => h_.1))) hb); replace BK538 := Aside0.mk (blk_below (g := gb538) (o := .cells #[.int .i64 a1_0, .int .i64 a1_1] 24 (0, 0)) (by (with_reducible repeat (first | refine blk_drewN ?_ _ | refine blk_drew ?_ | refine blk_alloc ?_ _)); refine blk_far ?_ NB538_552.out _; (with_reducible repeat (first | refine blk_drewN ?_ _ | refine blk_drew ?_ | refine blk_alloc ?_ _)); refine blk_far ?_ NB538_552.out _; (with_reducible repeat (first | refine blk_drewN ?_ _ | refine blk_drew ?_ | refine blk_alloc ?_ _)); exact BK538.out) hb); replace BK552 := Aside0.mk (blk_below (g := gb552) (o := .cells #[.int .i64 t549, .int .i64 t550] 24 (0, 0)) (by (with_reducible repeat (first | refine blk_drewN ?_ _ | refine blk_drew ?_ | refine blk_alloc ?_ _)); refine blk_put (cs := #[.int .i64 t549, .int .i64 0]) ?_ 1 _ rfl; (with_reducible repeat (first | refine blk_drewN ?_ _ | refine blk_drew ?_ | refine blk_alloc ?_ _)); refine blk_put (cs := #[.int .i64 0, .int .i64 0]) ?_ 0 _ rfl; (with_reducible repeat (first | refine blk_drewN ?_ _ | refine blk_drew ?_ | refine blk_alloc ?_ _)); exact BK552.out) hb); replace HB := bp hb; clear hb) | ((with_reducible refine gate_dst (N := 11) rfl ?_); refine zB 11 24 #[.int .i64 0, .int .i64 0] ?_; intro gb556 hg w30 hbox hb; replace HO544 := Aside0.mk (Kd.R_below (rz HO544) hb); replace HO548 := Aside0.mk (Kd.R_below (rz HO548) hb); have BK556 := Aside0.mk hbox; have GW556 := gz hg; have GE556 := gz hg; replace HB := bp hb; have NB538_556 := Aside0.mk ((by rw [hg]; exact Nat.ne_of_lt (bl BK538) : gb538 ≠ gb556)); have NB556_538 := Aside0.mk ((by rw [hg]; exact Nat.ne_of_gt (bl BK538) : gb556 ≠ gb538)); replace BK538 := kb BK538 hb; have NB552_556 := Aside0.mk ((by rw [hg]; exact Nat.ne_of_lt (bl BK552) : gb552 ≠ gb556)); have NB556_552 := Aside0.mk ((by rw [hg]; exact Nat.ne_of_gt (bl BK552) : gb556 ≠ gb552)); replace BK552 := kb BK552 hb; clear hb hbox hg; have hnb31 := NB556_538.out; have hnc31 := NB538_556.out; have hnb32 := NB556_552.out; have hnc32 := NB552_556.out; obtain ⟨hcz33_0, hcz33_1, hfz33_0, hfz33_1⟩ := xc2 BK556; obtain ⟨hcz34_0, hcz34_1, hfz34_0, hfz34_1⟩ := xc2 BK538) | ((with_reducible refine gate_callee (f := 18) rfl ?_); refine zC 43 Tryz.func18 #[.slice A0 l0.length c0, .agg #[.int .i64 a1_0, .int .i64 a1_1]] ?_; (with_reducible refine (exact_Has.calls _ _ l0 a1_0 a1_1 t557 t558 _ ?side1 ?side2 A12.out).mono ?_); (case side1 => exact Kd.C_below HR0.out bz); (case side2 => exact HC0.out); rintro e w35 ⟨rfl, hb⟩; refine ⟨_, rfl, ?_⟩; replace HO544 := Aside0.mk (Kd.R_below (by (with_reducible repeat (first | apply Kd.R_alloc | apply Kd.R_drewN | apply Kd.R_drew)); exact (Kd.R_mono (Kd.R_far (p := ⟨gb556, 1, none⟩) (Kd.R_far (p := ⟨gb556, 0, none⟩) (Kd.R_types HO544.out BK556.out (by decide)) (fun _ hk => hk.2) (.int .i64 t553)) (fun _ hk => hk.2) (.int .i64 t554)) (fun _ h_ => h_.1))) hb); replace HO548 := Aside0.mk (Kd.R_below (by (with_reducible repeat (first | apply Kd.R_alloc | apply Kd.R_drewN | apply Kd.R_drew)); exact (Kd.R_mono (Kd.R_far (p := ⟨gb556, 1, none⟩) (Kd.R_far (p := ⟨gb556, 0, none⟩) (Kd.R_types HO548.out BK556.out (by decide)) (fun _ hk => hk.2) (.int .i64 t553)) (fun _ hk => hk.2) (.int .i64 t554)) (fun _ h_ => h_.1))) hb); replace BK538 := Aside0.mk (blk_below (g := gb538) (o := .cells #[.int .i64 a1_0, .int .i64 a1_1] 24 (0, 0)) (by (with_reducible repeat (first | refine blk_drewN ?_ _ | refine blk_drew ?_ | refine blk_alloc ?_ _)); refine blk_far ?_ NB538_556.out _; (with_reducible repeat (first | refine blk_drewN ?_ _ | refine blk_drew ?_ | refine blk_alloc ?_ _)); refine blk_far ?_ NB538_556.out _; (with_reducible repeat (first | refine blk_drewN ?_ _ | refine blk_drew ?_ | refine blk_alloc ?_ _)); exact BK538.out) hb); replace BK552 := Aside0.mk (blk_below (g := gb552) (o := .cells #[.int .i64 t549, .int .i64 t550] 24 (0, 0)) (by (with_reducible repeat (first | refine blk_drewN ?_ _ | refine blk_drew ?_ | refine blk_alloc ?_ _)); refine blk_far ?_ NB552_556.out _; (with_reducible repeat (first | refine blk_drewN ?_ _ | refine blk_drew ?_ | refine blk_alloc ?_ _)); refine blk_far ?_ NB552_556.out _; (with_reducible repeat (first | refine blk_drewN ?_ _ | refine blk_drew ?_ | refine blk_alloc ?_ _)); exact BK552.out) hb); replace BK556 := Aside0.mk (blk_below (g := gb556) (o := .cells #[.int .i64 t553, .int .i64 t554] 24 (0, 0)) (by (with_reducible repeat (first | refine blk_drewN ?_ _ | refine blk_drew ?_ | refine blk_alloc ?_ _)); refine blk_put (cs := #[.int .i64 t553, .int .i64 0]) ?_ 1 _ rfl; (with_reducible repeat (first | refine blk_drewN ?_ _ | refine blk_drew ?_ | refine blk_alloc ?_ _)); refine blk_put (cs := #[.int .i64 0, .int .i64 0]) ?_ 0 _ rfl; (with_reducible repeat (first | refine blk_drewN ?_ _ | refine blk_drew ?_ | refine blk_alloc ?_ _)); exact BK556.out) hb); replace HB := bp hb; clear hb; obtain ⟨hcz36_0, hcz36_1, hfz36_0, hfz36_1⟩ := xc2 BK538) | ((with_reducible refine gate_callee (f := 19) rfl ?_); refine zC 49 Tryz.func19 #[.slice A0 l0.length c0, .agg #[.int .i64 a1_0, .int .i64 a1_1]] ?_; (with_reducible refine (dioramaref02_Has.calls k _ _ l0 a1_0 a1_1 t559 t560 _ ?side1 ?side2 A13.out).mono ?_); (case side1 => exact cz HR0); (case side2 => exact HC0.out); rintro e w37 ⟨rfl, hb⟩; refine ⟨_, rfl, ?_⟩; replace HO544 := Aside0.mk (Kd.R_below (rz HO544) hb); replace HO548 := Aside0.mk (Kd.R_below (rz HO548) hb); replace BK538 := kb BK538 hb; replace BK552 := kb BK552 hb; replace BK556 := kb BK556 hb; replace HB := bp hb; clear hb; obtain ⟨Ao38, co38, eo38⟩ := Kd.R_slice HO544.out; subst eo38; obtain ⟨Ao39, co39, eo39⟩ := Kd.R_slice HO548.out; subst eo39) | ((with_reducible refine gate_callee (f := 13) rfl ?_); refine zC 54 Tryz.func13 #[.slice Ao38 t541.length co38, .slice Ao39 t545.length co39] ?_; (with_reducible refine (dioramaref02_EqSpans.calls k _ _ t541 _ _ t545 true _ ?side1 ?side2 ?side3 ?side4 A14.out).mono ?_); (case side1 => exact cr HO544); (case side2 => exact (Kd.R_reads' HO544.out).2.1); (case side3 => exact cr HO548); (case side4 => exact (Kd.R_reads' HO548.out).2.1); rintro e w' ⟨rfl, ⟨nd, rfl⟩⟩; refine ⟨_, rfl, ?_⟩; obtain ⟨hcz40_0, hcz40_1, hfz40_0, hfz40_1⟩ := xc2 BK552; obtain ⟨hcz41_0, hcz41_1, hfz41_0, hfz41_1⟩ := xc2 BK556) | (go_at_call 10; (with_reducible refine (dioramalaw02_awake.calls  t562 _ A21.out).mono ?_); rintro e w42 ⟨rfl, hb⟩; replace HO544 := Aside0.mk (Kd.R_below (rz HO544) hb); replace HO548 := Aside0.mk (Kd.R_below (rz HO548) hb); replace BK538 := kb BK538 hb; replace BK552 := kb BK552 hb; replace BK556 := kb BK556 hb; replace HB := bp hb; clear hb))
        go_ret
        exact ⟨ez, bz⟩
       ·rw [if_neg c20] at H; have c20b0 : (t558 == t560) = false := beq_eq_false_iff_ne.mpr c20; have c20b1 : (t558 != t560) = true := bne_iff_ne.mpr c20; obtain rfl := Option.some.inj H
        go_enter Tryz.func4, Tryz.ntmps4
        go_wp2_with (first | ((with_reducible refine gate_dst (N := 3) rfl ?_); refine zB 3 24 #[.int .i64 a1_0, .int .i64 a1_1] ?_; intro gb538 hg w43 hbox hb; have BK538 := Aside0.mk hbox; have GW538 := gz hg; have GE538 := gz hg; replace HB := bp hb; clear hb hbox hg) | ((with_reducible refine gate_callee (f := 9) rfl ?_); refine zC 18 Tryz.func9 #[.slice A0 l0.length c0] ?_; (with_reducible refine (dioramalaw02_many.calls _ _ l0 false _ ?side1 ?side2 A3.out).mono ?_); (case side1 => exact cz HR0); (case side2 => exact HC0.out); rintro e w' ⟨rfl, ⟨nd, rfl⟩⟩; refine ⟨_, rfl, ?_⟩; (try (rw [drewN_self w43]; generalize hq_ : World.drewN w43 _ = w43; have n0_ : Aside0 (w43.heap[gb538]? = some (.cells #[.int .i64 a1_0, .int .i64 a1_1] 24 (0, 0))) := ⟨by rw [← hq_]; exact kz⟩; have n1_ : Aside0 (Below w.heap.size w w43) := ⟨by rw [← hq_]; exact bz⟩; clear BK538 HB hq_; have BK538 := n0_; have HB := n1_; clear n0_ n1_))) | ((with_reducible refine gate_callee (f := 14) rfl ?_); refine zC 22 Tryz.func14 #[.slice A0 l0.length c0] ?_; (with_reducible refine (exact_Clean.calls _ _ l0 t541 t542 _ ?side1 ?side2 A8.out).mono ?_); (case side1 => exact cz HR0); (case side2 => exact HC0.out); rintro e w44 ⟨v543, rfl, ho0, hb⟩; refine ⟨_, rfl, ?_⟩; have HO544 := Aside0.mk (Kd.R_lower ho0 sz); replace BK538 := kb BK538 hb; replace HB := bp hb; clear hb ho0) | ((with_reducible refine gate_callee (f := 15) rfl ?_); refine zC 27 Tryz.func15 #[.slice A0 l0.length c0] ?_; (with_reducible refine (dioramaref02_Clean.calls k _ _ l0 t545 t546 _ ?side1 ?side2 A9.out).mono ?_); (case side1 => exact cz HR0); (case side2 => exact HC0.out); rintro e w45 ⟨v547, rfl, ho0, hb⟩; refine ⟨_, rfl, ?_⟩; have HO548 := Aside0.mk (Kd.R_lower (Kd.R_new' ho0 (Kd.R_lt (rz HO544))) sz); replace HO544 := Aside0.mk (Kd.R_elder' (rz HO544) (Kd.R_base ho0) hb); replace BK538 := kb BK538 hb; replace HB := bp hb; clear hb ho0) | ((with_reducible refine gate_callee (f := 16) rfl ?_); refine zC 32 Tryz.func16 #[.slice A0 l0.length c0] ?_; (with_reducible refine (exact_Total.calls _ _ l0 t549 t550 t551 _ ?side1 ?side2 A10.out).mono ?_); (case side1 => exact cz HR0); (case side2 => exact HC0.out); rintro e w46 ⟨rfl, hb⟩; refine ⟨_, rfl, ?_⟩; replace HO544 := Aside0.mk (Kd.R_below (rz HO544) hb); replace HO548 := Aside0.mk (Kd.R_below (rz HO548) hb); replace BK538 := kb BK538 hb; replace HB := bp hb; clear hb) | ((with_reducible refine gate_dst (N := 9) rfl ?_); refine zB 9 24 #[.int .i64 0, .int .i64 0] ?_; intro gb552 hg w47 hbox hb; replace HO544 := Aside0.mk (Kd.R_below (rz HO544) hb); replace HO548 := Aside0.mk (Kd.R_below (rz HO548) hb); have BK552 := Aside0.mk hbox; have GW552 := gz hg; have GE552 := gz hg; replace HB := bp hb; have NB538_552 := Aside0.mk ((by rw [hg]; exact Nat.ne_of_lt (bl BK538) : gb538 ≠ gb552)); have NB552_538 := Aside0.mk ((by rw [hg]; exact Nat.ne_of_gt (bl BK538) : gb552 ≠ gb538)); replace BK538 := kb BK538 hb; clear hb hbox hg; have hnb48 := NB552_538.out; have hnc48 := NB538_552.out; obtain ⟨hcz49_0, hcz49_1, hfz49_0, hfz49_1⟩ := xc2 BK552) | ((with_reducible refine gate_callee (f := 17) rfl ?_); refine zC 37 Tryz.func17 #[.slice A0 l0.length c0] ?_; (with_reducible refine (dioramaref02_Total.calls k _ _ l0 t553 t554 t555 _ ?side1 ?side2 A11.out).mono ?_); (case side1 => exact Kd.C_below HR0.out bz); (case side2 => exact HC0.out); rintro e w50 ⟨rfl, hb⟩; refine ⟨_, rfl, ?_⟩; replace HO544 := Aside0.mk (Kd.R_below (by (with_reducible repeat (first | apply Kd.R_alloc | apply Kd.R_drewN | apply Kd.R_drew)); exact (Kd.R_mono (Kd.R_far (p := ⟨gb552, 1, none⟩) (Kd.R_far (p := ⟨gb552, 0, none⟩) (Kd.R_types HO544.out BK552.out (by decide)) (fun _ hk => hk.2) (.int .i64 t549)) (fun _ hk => hk.2) (.int .i64 t550)) (fun _ h_ => h_.1))) hb); replace HO548 := Aside0.mk (Kd.R_below (by (with_reducible repeat (first | apply Kd.R_alloc | apply Kd.R_drewN | apply Kd.R_drew)); exact (Kd.R_mono (Kd.R_far (p := ⟨gb552, 1, none⟩) (Kd.R_far (p := ⟨gb552, 0, none⟩) (Kd.R_types HO548.out BK552.out (by decide)) (fun _ hk => hk.2) (.int .i64 t549)) (fun _ hk => hk.2) (.int .i64 t550)) (fun _ h_ => h_.1))) hb); replace BK538 := Aside0.mk (blk_below (g := gb538) (o := .cells #[.int .i64 a1_0, .int .i64 a1_1] 24 (0, 0)) (by (with_reducible repeat (first | refine blk_drewN ?_ _ | refine blk_drew ?_ | refine blk_alloc ?_ _)); refine blk_far ?_ NB538_552.out _; (with_reducible repeat (first | refine blk_drewN ?_ _ | refine blk_drew ?_ | refine blk_alloc ?_ _)); refine blk_far ?_ NB538_552.out _; (with_reducible repeat (first | refine blk_drewN ?_ _ | refine blk_drew ?_ | refine blk_alloc ?_ _)); exact BK538.out) hb); replace BK552 := Aside0.mk (blk_below (g := gb552) (o := .cells #[.int .i64 t549, .int .i64 t550] 24 (0, 0)) (by (with_reducible repeat (first | refine blk_drewN ?_ _ | refine blk_drew ?_ | refine blk_alloc ?_ _)); refine blk_put (cs := #[.int .i64 t549, .int .i64 0]) ?_ 1 _ rfl; (with_reducible repeat (first | refine blk_drewN ?_ _ | refine blk_drew ?_ | refine blk_alloc ?_ _)); refine blk_put (cs := #[.int .i64 0, .int .i64 0]) ?_ 0 _ rfl; (with_reducible repeat (first | refine blk_drewN ?_ _ | refine blk_drew ?_ | refine blk_alloc ?_ _)); exact BK552.out) hb); replace HB := bp hb; clear hb) | ((with_reducible refine gate_dst (N := 11) rfl ?_); refine zB 11 24 #[.int .i64 0, .int .i64 0] ?_; intro gb556 hg w51 hbox hb; replace HO544 := Aside0.mk (Kd.R_below (rz HO544) hb); replace HO548 := Aside0.mk (Kd.R_below (rz HO548) hb); have BK556 := Aside0.mk hbox; have GW556 := gz hg; have GE556 := gz hg; replace HB := bp hb; have NB538_556 := Aside0.mk ((by rw [hg]; exact Nat.ne_of_lt (bl BK538) : gb538 ≠ gb556)); have NB556_538 := Aside0.mk ((by rw [hg]; exact Nat.ne_of_gt (bl BK538) : gb556 ≠ gb538)); replace BK538 := kb BK538 hb; have NB552_556 := Aside0.mk ((by rw [hg]; exact Nat.ne_of_lt (bl BK552) : gb552 ≠ gb556)); have NB556_552 := Aside0.mk ((by rw [hg]; exact Nat.ne_of_gt (bl BK552) : gb556 ≠ gb552)); replace BK552 := kb BK552 hb; clear hb hbox hg; have hnb52 := NB556_538.out; have hnc52 := NB538_556.out; have hnb53 := NB556_552.out; have hnc53 := NB552_556.out; obtain ⟨hcz54_0, hcz54_1, hfz54_0, hfz54_1⟩ := xc2 BK556; obtain ⟨hcz55_0, hcz55_1, hfz55_0, hfz55_1⟩ := xc2 BK538) | ((with_reducible refine gate_callee (f := 18) rfl ?_); refine zC 43 Tryz.func18 #[.slice A0 l0.length c0, .agg #[.int .i64 a1_0, .int .i64 a1_1]] ?_; (with_reducible refine (exact_Has.calls _ _ l0 a1_0 a1_1 t557 t558 _ ?side1 ?side2 A12.out).mono ?_); (case side1 => exact Kd.C_below HR0.out bz); (case side2 => exact HC0.out); rintro e w56 ⟨rfl, hb⟩; refine ⟨_, rfl, ?_⟩; replace HO544 := Aside0.mk (Kd.R_below (by (with_reducible repeat (first | apply Kd.R_alloc | apply Kd.R_drewN | apply Kd.R_drew)); exact (Kd.R_mono (Kd.R_far (p := ⟨gb556, 1, none⟩) (Kd.R_far (p := ⟨gb556, 0, none⟩) (Kd.R_types HO544.out BK556.out (by decide)) (fun _ hk => hk.2) (.int .i64 t553)) (fun _ hk => hk.2) (.int .i64 t554)) (fun _ h_ => h_.1))) hb); replace HO548 := Aside0.mk (Kd.R_below (by (with_reducible repeat (first | apply Kd.R_alloc | apply Kd.R_drewN | apply Kd.R_drew)); exact (Kd.R_mono (Kd.R_far (p := ⟨gb556, 1, none⟩) (Kd.R_far (p := ⟨gb556, 0, none⟩) (Kd.R_types HO548.out BK556.out (by decide)) (fun _ hk => hk.2) (.int .i64 t553)) (fun _ hk => hk.2) (.int .i64 t554)) (fun _ h_ => h_.1))) hb); replace BK538 := Aside0.mk (blk_below (g := gb538) (o := .cells #[.int .i64 a1_0, .int .i64 a1_1] 24 (0, 0)) (by (with_reducible repeat (first | refine blk_drewN ?_ _ | refine blk_drew ?_ | refine blk_alloc ?_ _)); refine blk_far ?_ NB538_556.out _; (with_reducible repeat (first | refine blk_drewN ?_ _ | refine blk_drew ?_ | refine blk_alloc ?_ _)); refine blk_far ?_ NB538_556.out _; (with_reducible repeat (first | refine blk_drewN ?_ _ | refine blk_drew ?_ | refine blk_alloc ?_ _)); exact BK538.out) hb); replace BK552 := Aside0.mk (blk_below (g := gb552) (o := .cells #[.int .i64 t549, .int .i64 t550] 24 (0, 0)) (by (with_reducible repeat (first | refine blk_drewN ?_ _ | refine blk_drew ?_ | refine blk_alloc ?_ _)); refine blk_far ?_ NB552_556.out _; (with_reducible repeat (first | refine blk_drewN ?_ _ | refine blk_drew ?_ | refine blk_alloc ?_ _)); refine blk_far ?_ NB552_556.out _; (with_reducible repeat (first | refine blk_drewN ?_ _ | refine blk_drew ?_ | refine blk_alloc ?_ _)); exact BK552.out) hb); replace BK556 := Aside0.mk (blk_below (g := gb556) (o := .cells #[.int .i64 t553, .int .i64 t554] 24 (0, 0)) (by (with_reducible repeat (first | refine blk_drewN ?_ _ | refine blk_drew ?_ | refine blk_alloc ?_ _)); refine blk_put (cs := #[.int .i64 t553, .int .i64 0]) ?_ 1 _ rfl; (with_reducible repeat (first | refine blk_drewN ?_ _ | refine blk_drew ?_ | refine blk_alloc ?_ _)); refine blk_put (cs := #[.int .i64 0, .int .i64 0]) ?_ 0 _ rfl; (with_reducible repeat (first | refine blk_drewN ?_ _ | refine blk_drew ?_ | refine blk_alloc ?_ _)); exact BK556.out) hb); replace HB := bp hb; clear hb; obtain ⟨hcz57_0, hcz57_1, hfz57_0, hfz57_1⟩ := xc2 BK538) | ((with_reducible refine gate_callee (f := 19) rfl ?_); refine zC 49 Tryz.func19 #[.slice A0 l0.length c0, .agg #[.int .i64 a1_0, .int .i64 a1_1]] ?_; (with_reducible refine (dioramaref02_Has.calls k _ _ l0 a1_0 a1_1 t559 t560 _ ?side1 ?side2 A13.out).mono ?_); (case side1 => exact cz HR0); (case side2 => exact HC0.out); rintro e w58 ⟨rfl, hb⟩; refine ⟨_, rfl, ?_⟩; replace HO544 := Aside0.mk (Kd.R_below (rz HO544) hb); replace HO548 := Aside0.mk (Kd.R_below (rz HO548) hb); replace BK538 := kb BK538 hb; replace BK552 := kb BK552 hb; replace BK556 := kb BK556 hb; replace HB := bp hb; clear hb; obtain ⟨Ao59, co59, eo59⟩ := Kd.R_slice HO544.out; subst eo59; obtain ⟨Ao60, co60, eo60⟩ := Kd.R_slice HO548.out; subst eo60) | ((with_reducible refine gate_callee (f := 13) rfl ?_); refine zC 54 Tryz.func13 #[.slice Ao59 t541.length co59, .slice Ao60 t545.length co60] ?_; (with_reducible refine (dioramaref02_EqSpans.calls k _ _ t541 _ _ t545 true _ ?side1 ?side2 ?side3 ?side4 A14.out).mono ?_); (case side1 => exact cr HO544); (case side2 => exact (Kd.R_reads' HO544.out).2.1); (case side3 => exact cr HO548); (case side4 => exact (Kd.R_reads' HO548.out).2.1); rintro e w' ⟨rfl, ⟨nd, rfl⟩⟩; refine ⟨_, rfl, ?_⟩; obtain ⟨hcz61_0, hcz61_1, hfz61_0, hfz61_1⟩ := xc2 BK552; obtain ⟨hcz62_0, hcz62_1, hfz62_0, hfz62_1⟩ := xc2 BK556))
        go_ret
        exact ⟨ez, bz⟩
      ·rw [if_neg c19] at H; have c19b0 : (t557 == t559) = false := by simpa using c19
       (try (have c19b1 : decide (t557 = t559) = false := by simpa using c19))
       (try (have c19b2 : (t557 == t559) = false := by simpa using c19))
       (try (have c19b3 : ¬ (t557 = t559) := by simpa using c19))
       clear c19; obtain rfl := Option.some.inj H
       go_enter Tryz.func4, Tryz.ntmps4
       go_wp2_with (first | ((with_reducible refine gate_dst (N := 3) rfl ?_); refine zB 3 24 #[.int .i64 a1_0, .int .i64 a1_1] ?_; intro gb538 hg w63 hbox hb; have BK538 := Aside0.mk hbox; have GW538 := gz hg; have GE538 := gz hg; replace HB := bp hb; clear hb hbox hg) | ((with_reducible refine gate_callee (f := 9) rfl ?_); refine zC 18 Tryz.func9 #[.slice A0 l0.length c0] ?_; (with_reducible refine (dioramalaw02_many.calls _ _ l0 false _ ?side1 ?side2 A3.out).mono ?_); (case side1 => exact cz HR0); (case side2 => exact HC0.out); rintro e w' ⟨rfl, ⟨nd, rfl⟩⟩; refine ⟨_, rfl, ?_⟩; (try (rw [drewN_self w63]; generalize hq_ : World.drewN w63 _ = w63; have n0_ : Aside0 (w63.heap[gb538]? = some (.cells #[.int .i64 a1_0, .int .i64 a1_1] 24 (0, 0))) := ⟨by rw [← hq_]; exact kz⟩; have n1_ : Aside0 (Below w.heap.size w w63) := ⟨by rw [← hq_]; exact bz⟩; clear BK538 HB hq_; have BK538 := n0_; have HB := n1_; clear n0_ n1_))) | ((with_reducible refine gate_callee (f := 14) rfl ?_); refine zC 22 Tryz.func14 #[.slice A0 l0.length c0] ?_; (with_reducible refine (exact_Clean.calls _ _ l0 t541 t542 _ ?side1 ?side2 A8.out).mono ?_); (case side1 => exact cz HR0); (case side2 => exact HC0.out); rintro e w64 ⟨v543, rfl, ho0, hb⟩; refine ⟨_, rfl, ?_⟩; have HO544 := Aside0.mk (Kd.R_lower ho0 sz); replace BK538 := kb BK538 hb; replace HB := bp hb; clear hb ho0) | ((with_reducible refine gate_callee (f := 15) rfl ?_); refine zC 27 Tryz.func15 #[.slice A0 l0.length c0] ?_; (with_reducible refine (dioramaref02_Clean.calls k _ _ l0 t545 t546 _ ?side1 ?side2 A9.out).mono ?_); (case side1 => exact cz HR0); (case side2 => exact HC0.out); rintro e w65 ⟨v547, rfl, ho0, hb⟩; refine ⟨_, rfl, ?_⟩; have HO548 := Aside0.mk (Kd.R_lower (Kd.R_new' ho0 (Kd.R_lt (rz HO544))) sz); replace HO544 := Aside0.mk (Kd.R_elder' (rz HO544) (Kd.R_base ho0) hb); replace BK538 := kb BK538 hb; replace HB := bp hb; clear hb ho0) | ((with_reducible refine gate_callee (f := 16) rfl ?_); refine zC 32 Tryz.func16 #[.slice A0 l0.length c0] ?_; (with_reducible refine (exact_Total.calls _ _ l0 t549 t550 t551 _ ?side1 ?side2 A10.out).mono ?_); (case side1 => exact cz HR0); (case side2 => exact HC0.out); rintro e w66 ⟨rfl, hb⟩; refine ⟨_, rfl, ?_⟩; replace HO544 := Aside0.mk (Kd.R_below (rz HO544) hb); replace HO548 := Aside0.mk (Kd.R_below (rz HO548) hb); replace BK538 := kb BK538 hb; replace HB := bp hb; clear hb) | ((with_reducible refine gate_dst (N := 9) rfl ?_); refine zB 9 24 #[.int .i64 0, .int .i64 0] ?_; intro gb552 hg w67 hbox hb; replace HO544 := Aside0.mk (Kd.R_below (rz HO544) hb); replace HO548 := Aside0.mk (Kd.R_below (rz HO548) hb); have BK552 := Aside0.mk hbox; have GW552 := gz hg; have GE552 := gz hg; replace HB := bp hb; have NB538_552 := Aside0.mk ((by rw [hg]; exact Nat.ne_of_lt (bl BK538) : gb538 ≠ gb552)); have NB552_538 := Aside0.mk ((by rw [hg]; exact Nat.ne_of_gt (bl BK538) : gb552 ≠ gb538)); replace BK538 := kb BK538 hb; clear hb hbox hg; have hnb68 := NB552_538.out; have hnc68 := NB538_552.out; obtain ⟨hcz69_0, hcz69_1, hfz69_0, hfz69_1⟩ := xc2 BK552) | ((with_reducible refine gate_callee (f := 17) rfl ?_); refine zC 37 Tryz.func17 #[.slice A0 l0.length c0] ?_; (with_reducible refine (dioramaref02_Total.calls k _ _ l0 t553 t554 t555 _ ?side1 ?side2 A11.out).mono ?_); (case side1 => exact Kd.C_below HR0.out bz); (case side2 => exact HC0.out); rintro e w70 ⟨rfl, hb⟩; refine ⟨_, rfl, ?_⟩; replace HO544 := Aside0.mk (Kd.R_below (by (with_reducible repeat (first | apply Kd.R_alloc | apply Kd.R_drewN | apply Kd.R_drew)); exact (Kd.R_mono (Kd.R_far (p := ⟨gb552, 1, none⟩) (Kd.R_far (p := ⟨gb552, 0, none⟩) (Kd.R_types HO544.out BK552.out (by decide)) (fun _ hk => hk.2) (.int .i64 t549)) (fun _ hk => hk.2) (.int .i64 t550)) (fun _ h_ => h_.1))) hb); replace HO548 := Aside0.mk (Kd.R_below (by (with_reducible repeat (first | apply Kd.R_alloc | apply Kd.R_drewN | apply Kd.R_drew)); exact (Kd.R_mono (Kd.R_far (p := ⟨gb552, 1, none⟩) (Kd.R_far (p := ⟨gb552, 0, none⟩) (Kd.R_types HO548.out BK552.out (by decide)) (fun _ hk => hk.2) (.int .i64 t549)) (fun _ hk => hk.2) (.int .i64 t550)) (fun _ h_ => h_.1))) hb); replace BK538 := Aside0.mk (blk_below (g := gb538) (o := .cells #[.int .i64 a1_0, .int .i64 a1_1] 24 (0, 0)) (by (with_reducible repeat (first | refine blk_drewN ?_ _ | refine blk_drew ?_ | refine blk_alloc ?_ _)); refine blk_far ?_ NB538_552.out _; (with_reducible repeat (first | refine blk_drewN ?_ _ | refine blk_drew ?_ | refine blk_alloc ?_ _)); refine blk_far ?_ NB538_552.out _; (with_reducible repeat (first | refine blk_drewN ?_ _ | refine blk_drew ?_ | refine blk_alloc ?_ _)); exact BK538.out) hb); replace BK552 := Aside0.mk (blk_below (g := gb552) (o := .cells #[.int .i64 t549, .int .i64 t550] 24 (0, 0)) (by (with_reducible repeat (first | refine blk_drewN ?_ _ | refine blk_drew ?_ | refine blk_alloc ?_ _)); refine blk_put (cs := #[.int .i64 t549, .int .i64 0]) ?_ 1 _ rfl; (with_reducible repeat (first | refine blk_drewN ?_ _ | refine blk_drew ?_ | refine blk_alloc ?_ _)); refine blk_put (cs := #[.int .i64 0, .int .i64 0]) ?_ 0 _ rfl; (with_reducible repeat (first | refine blk_drewN ?_ _ | refine blk_drew ?_ | refine blk_alloc ?_ _)); exact BK552.out) hb); replace HB := bp hb; clear hb) | ((with_reducible refine gate_dst (N := 11) rfl ?_); refine zB 11 24 #[.int .i64 0, .int .i64 0] ?_; intro gb556 hg w71 hbox hb; replace HO544 := Aside0.mk (Kd.R_below (rz HO544) hb); replace HO548 := Aside0.mk (Kd.R_below (rz HO548) hb); have BK556 := Aside0.mk hbox; have GW556 := gz hg; have GE556 := gz hg; replace HB := bp hb; have NB538_556 := Aside0.mk ((by rw [hg]; exact Nat.ne_of_lt (bl BK538) : gb538 ≠ gb556)); have NB556_538 := Aside0.mk ((by rw [hg]; exact Nat.ne_of_gt (bl BK538) : gb556 ≠ gb538)); replace BK538 := kb BK538 hb; have NB552_556 := Aside0.mk ((by rw [hg]; exact Nat.ne_of_lt (bl BK552) : gb552 ≠ gb556)); have NB556_552 := Aside0.mk ((by rw [hg]; exact Nat.ne_of_gt (bl BK552) : gb556 ≠ gb552)); replace BK552 := kb BK552 hb; clear hb hbox hg; have hnb72 := NB556_538.out; have hnc72 := NB538_556.out; have hnb73 := NB556_552.out; have hnc73 := NB552_556.out; obtain ⟨hcz74_0, hcz74_1, hfz74_0, hfz74_1⟩ := xc2 BK556; obtain ⟨hcz75_0, hcz75_1, hfz75_0, hfz75_1⟩ := xc2 BK538) | ((with_reducible refine gate_callee (f := 18) rfl ?_); refine zC 43 Tryz.func18 #[.slice A0 l0.length c0, .agg #[.int .i64 a1_0, .int .i64 a1_1]] ?_; (with_reducible refine (exact_Has.calls _ _ l0 a1_0 a1_1 t557 t558 _ ?side1 ?side2 A12.out).mono ?_); (case side1 => exact Kd.C_below HR0.out bz); (case side2 => exact HC0.out); rintro e w76 ⟨rfl, hb⟩; refine ⟨_, rfl, ?_⟩; replace HO544 := Aside0.mk (Kd.R_below (by (with_reducible repeat (first | apply Kd.R_alloc | apply Kd.R_drewN | apply Kd.R_drew)); exact (Kd.R_mono (Kd.R_far (p := ⟨gb556, 1, none⟩) (Kd.R_far (p := ⟨gb556, 0, none⟩) (Kd.R_types HO544.out BK556.out (by decide)) (fun _ hk => hk.2) (.int .i64 t553)) (fun _ hk => hk.2) (.int .i64 t554)) (fun _ h_ => h_.1))) hb); replace HO548 := Aside0.mk (Kd.R_below (by (with_reducible repeat (first | apply Kd.R_alloc | apply Kd.R_drewN | apply Kd.R_drew)); exact (Kd.R_mono (Kd.R_far (p := ⟨gb556, 1, none⟩) (Kd.R_far (p := ⟨gb556, 0, none⟩) (Kd.R_types HO548.out BK556.out (by decide)) (fun _ hk => hk.2) (.int .i64 t553)) (fun _ hk => hk.2) (.int .i64 t554)) (fun _ h_ => h_.1))) hb); replace BK538 := Aside0.mk (blk_below (g := gb538) (o := .cells #[.int .i64 a1_0, .int .i64 a1_1] 24 (0, 0)) (by (with_reducible repeat (first | refine blk_drewN ?_ _ | refine blk_drew ?_ | refine blk_alloc ?_ _)); refine blk_far ?_ NB538_556.out _; (with_reducible repeat (first | refine blk_drewN ?_ _ | refine blk_drew ?_ | refine blk_alloc ?_ _)); refine blk_far ?_ NB538_556.out _; (with_reducible repeat (first | refine blk_drewN ?_ _ | refine blk_drew ?_ | refine blk_alloc ?_ _)); exact BK538.out) hb); replace BK552 := Aside0.mk (blk_below (g := gb552) (o := .cells #[.int .i64 t549, .int .i64 t550] 24 (0, 0)) (by (with_reducible repeat (first | refine blk_drewN ?_ _ | refine blk_drew ?_ | refine blk_alloc ?_ _)); refine blk_far ?_ NB552_556.out _; (with_reducible repeat (first | refine blk_drewN ?_ _ | refine blk_drew ?_ | refine blk_alloc ?_ _)); refine blk_far ?_ NB552_556.out _; (with_reducible repeat (first | refine blk_drewN ?_ _ | refine blk_drew ?_ | refine blk_alloc ?_ _)); exact BK552.out) hb); replace BK556 := Aside0.mk (blk_below (g := gb556) (o := .cells #[.int .i64 t553, .int .i64 t554] 24 (0, 0)) (by (with_reducible repeat (first | refine blk_drewN ?_ _ | refine blk_drew ?_ | refine blk_alloc ?_ _)); refine blk_put (cs := #[.int .i64 t553, .int .i64 0]) ?_ 1 _ rfl; (with_reducible repeat (first | refine blk_drewN ?_ _ | refine blk_drew ?_ | refine blk_alloc ?_ _)); refine blk_put (cs := #[.int .i64 0, .int .i64 0]) ?_ 0 _ rfl; (with_reducible repeat (first | refine blk_drewN ?_ _ | refine blk_drew ?_ | refine blk_alloc ?_ _)); exact BK556.out) hb); replace HB := bp hb; clear hb; obtain ⟨hcz77_0, hcz77_1, hfz77_0, hfz77_1⟩ := xc2 BK538) | ((with_reducible refine gate_callee (f := 19) rfl ?_); refine zC 49 Tryz.func19 #[.slice A0 l0.length c0, .agg #[.int .i64 a1_0, .int .i64 a1_1]] ?_; (with_reducible refine (dioramaref02_Has.calls k _ _ l0 a1_0 a1_1 t559 t560 _ ?side1 ?side2 A13.out).mono ?_); (case side1 => exact cz HR0); (case side2 => exact HC0.out); rintro e w78 ⟨rfl, hb⟩; refine ⟨_, rfl, ?_⟩; replace HO544 := Aside0.mk (Kd.R_below (rz HO544) hb); replace HO548 := Aside0.mk (Kd.R_below (rz HO548) hb); replace BK538 := kb BK538 hb; replace BK552 := kb BK552 hb; replace BK556 := kb BK556 hb; replace HB := bp hb; clear hb; obtain ⟨Ao79, co79, eo79⟩ := Kd.R_slice HO544.out; subst eo79; obtain ⟨Ao80, co80, eo80⟩ := Kd.R_slice HO548.out; subst eo80) | ((with_reducible refine gate_callee (f := 13) rfl ?_); refine zC 54 Tryz.func13 #[.slice Ao79 t541.length co79, .slice Ao80 t545.length co80] ?_; (with_reducible refine (dioramaref02_EqSpans.calls k _ _ t541 _ _ t545 true _ ?side1 ?side2 ?side3 ?side4 A14.out).mono ?_); (case side1 => exact cr HO544); (case side2 => exact (Kd.R_reads' HO544.out).2.1); (case side3 => exact cr HO548); (case side4 => exact (Kd.R_reads' HO548.out).2.1); rintro e w' ⟨rfl, ⟨nd, rfl⟩⟩; refine ⟨_, rfl, ?_⟩; obtain ⟨hcz81_0, hcz81_1, hfz81_0, hfz81_1⟩ := xc2 BK552; obtain ⟨hcz82_0, hcz82_1, hfz82_0, hfz82_1⟩ := xc2 BK556))
       go_ret
       exact ⟨ez, bz⟩
     ·rw [if_neg c18] at H; have c18b0 : (t551 == t555) = false := beq_eq_false_iff_ne.mpr c18; have c18b1 : (t551 != t555) = true := bne_iff_ne.mpr c18; obtain rfl := Option.some.inj H
      go_enter Tryz.func4, Tryz.ntmps4
      go_wp2_with (first | ((with_reducible refine gate_dst (N := 3) rfl ?_); refine zB 3 24 #[.int .i64 a1_0, .int .i64 a1_1] ?_; intro gb538 hg w83 hbox hb; have BK538 := Aside0.mk hbox; have GW538 := gz hg; have GE538 := gz hg; replace HB := bp hb; clear hb hbox hg) | ((with_reducible refine gate_callee (f := 9) rfl ?_); refine zC 18 Tryz.func9 #[.slice A0 l0.length c0] ?_; (with_reducible refine (dioramalaw02_many.calls _ _ l0 false _ ?side1 ?side2 A3.out).mono ?_); (case side1 => exact cz HR0); (case side2 => exact HC0.out); rintro e w' ⟨rfl, ⟨nd, rfl⟩⟩; refine ⟨_, rfl, ?_⟩; (try (rw [drewN_self w83]; generalize hq_ : World.drewN w83 _ = w83; have n0_ : Aside0 (w83.heap[gb538]? = some (.cells #[.int .i64 a1_0, .int .i64 a1_1] 24 (0, 0))) := ⟨by rw [← hq_]; exact kz⟩; have n1_ : Aside0 (Below w.heap.size w w83) := ⟨by rw [← hq_]; exact bz⟩; clear BK538 HB hq_; have BK538 := n0_; have HB := n1_; clear n0_ n1_))) | ((with_reducible refine gate_callee (f := 14) rfl ?_); refine zC 22 Tryz.func14 #[.slice A0 l0.length c0] ?_; (with_reducible refine (exact_Clean.calls _ _ l0 t541 t542 _ ?side1 ?side2 A8.out).mono ?_); (case side1 => exact cz HR0); (case side2 => exact HC0.out); rintro e w84 ⟨v543, rfl, ho0, hb⟩; refine ⟨_, rfl, ?_⟩; have HO544 := Aside0.mk (Kd.R_lower ho0 sz); replace BK538 := kb BK538 hb; replace HB := bp hb; clear hb ho0) | ((with_reducible refine gate_callee (f := 15) rfl ?_); refine zC 27 Tryz.func15 #[.slice A0 l0.length c0] ?_; (with_reducible refine (dioramaref02_Clean.calls k _ _ l0 t545 t546 _ ?side1 ?side2 A9.out).mono ?_); (case side1 => exact cz HR0); (case side2 => exact HC0.out); rintro e w85 ⟨v547, rfl, ho0, hb⟩; refine ⟨_, rfl, ?_⟩; have HO548 := Aside0.mk (Kd.R_lower (Kd.R_new' ho0 (Kd.R_lt (rz HO544))) sz); replace HO544 := Aside0.mk (Kd.R_elder' (rz HO544) (Kd.R_base ho0) hb); replace BK538 := kb BK538 hb; replace HB := bp hb; clear hb ho0) | ((with_reducible refine gate_callee (f := 16) rfl ?_); refine zC 32 Tryz.func16 #[.slice A0 l0.length c0] ?_; (with_reducible refine (exact_Total.calls _ _ l0 t549 t550 t551 _ ?side1 ?side2 A10.out).mono ?_); (case side1 => exact cz HR0); (case side2 => exact HC0.out); rintro e w86 ⟨rfl, hb⟩; refine ⟨_, rfl, ?_⟩; replace HO544 := Aside0.mk (Kd.R_below (rz HO544) hb); replace HO548 := Aside0.mk (Kd.R_below (rz HO548) hb); replace BK538 := kb BK538 hb; replace HB := bp hb; clear hb) | ((with_reducible refine gate_dst (N := 9) rfl ?_); refine zB 9 24 #[.int .i64 0, .int .i64 0] ?_; intro gb552 hg w87 hbox hb; replace HO544 := Aside0.mk (Kd.R_below (rz HO544) hb); replace HO548 := Aside0.mk (Kd.R_below (rz HO548) hb); have BK552 := Aside0.mk hbox; have GW552 := gz hg; have GE552 := gz hg; replace HB := bp hb; have NB538_552 := Aside0.mk ((by rw [hg]; exact Nat.ne_of_lt (bl BK538) : gb538 ≠ gb552)); have NB552_538 := Aside0.mk ((by rw [hg]; exact Nat.ne_of_gt (bl BK538) : gb552 ≠ gb538)); replace BK538 := kb BK538 hb; clear hb hbox hg; have hnb88 := NB552_538.out; have hnc88 := NB538_552.out; obtain ⟨hcz89_0, hcz89_1, hfz89_0, hfz89_1⟩ := xc2 BK552) | ((with_reducible refine gate_callee (f := 17) rfl ?_); refine zC 37 Tryz.func17 #[.slice A0 l0.length c0] ?_; (with_reducible refine (dioramaref02_Total.calls k _ _ l0 t553 t554 t555 _ ?side1 ?side2 A11.out).mono ?_); (case side1 => exact Kd.C_below HR0.out bz); (case side2 => exact HC0.out); rintro e w90 ⟨rfl, hb⟩; refine ⟨_, rfl, ?_⟩; replace HO544 := Aside0.mk (Kd.R_below (by (with_reducible repeat (first | apply Kd.R_alloc | apply Kd.R_drewN | apply Kd.R_drew)); exact (Kd.R_mono (Kd.R_far (p := ⟨gb552, 1, none⟩) (Kd.R_far (p := ⟨gb552, 0, none⟩) (Kd.R_types HO544.out BK552.out (by decide)) (fun _ hk => hk.2) (.int .i64 t549)) (fun _ hk => hk.2) (.int .i64 t550)) (fun _ h_ => h_.1))) hb); replace HO548 := Aside0.mk (Kd.R_below (by (with_reducible repeat (first | apply Kd.R_alloc | apply Kd.R_drewN | apply Kd.R_drew)); exact (Kd.R_mono (Kd.R_far (p := ⟨gb552, 1, none⟩) (Kd.R_far (p := ⟨gb552, 0, none⟩) (Kd.R_types HO548.out BK552.out (by decide)) (fun _ hk => hk.2) (.int .i64 t549)) (fun _ hk => hk.2) (.int .i64 t550)) (fun _ h_ => h_.1))) hb); replace BK538 := Aside0.mk (blk_below (g := gb538) (o := .cells #[.int .i64 a1_0, .int .i64 a1_1] 24 (0, 0)) (by (with_reducible repeat (first | refine blk_drewN ?_ _ | refine blk_drew ?_ | refine blk_alloc ?_ _)); refine blk_far ?_ NB538_552.out _; (with_reducible repeat (first | refine blk_drewN ?_ _ | refine blk_drew ?_ | refine blk_alloc ?_ _)); refine blk_far ?_ NB538_552.out _; (with_reducible repeat (first | refine blk_drewN ?_ _ | refine blk_drew ?_ | refine blk_alloc ?_ _)); exact BK538.out) hb); replace BK552 := Aside0.mk (blk_below (g := gb552) (o := .cells #[.int .i64 t549, .int .i64 t550] 24 (0, 0)) (by (with_reducible repeat (first | refine blk_drewN ?_ _ | refine blk_drew ?_ | refine blk_alloc ?_ _)); refine blk_put (cs := #[.int .i64 t549, .int .i64 0]) ?_ 1 _ rfl; (with_reducible repeat (first | refine blk_drewN ?_ _ | refine blk_drew ?_ | refine blk_alloc ?_ _)); refine blk_put (cs := #[.int .i64 0, .int .i64 0]) ?_ 0 _ rfl; (with_reducible repeat (first | refine blk_drewN ?_ _ | refine blk_drew ?_ | refine blk_alloc ?_ _)); exact BK552.out) hb); replace HB := bp hb; clear hb) | ((with_reducible refine gate_dst (N := 11) rfl ?_); refine zB 11 24 #[.int .i64 0, .int .i64 0] ?_; intro gb556 hg w91 hbox hb; replace HO544 := Aside0.mk (Kd.R_below (rz HO544) hb); replace HO548 := Aside0.mk (Kd.R_below (rz HO548) hb); have BK556 := Aside0.mk hbox; have GW556 := gz hg; have GE556 := gz hg; replace HB := bp hb; have NB538_556 := Aside0.mk ((by rw [hg]; exact Nat.ne_of_lt (bl BK538) : gb538 ≠ gb556)); have NB556_538 := Aside0.mk ((by rw [hg]; exact Nat.ne_of_gt (bl BK538) : gb556 ≠ gb538)); replace BK538 := kb BK538 hb; have NB552_556 := Aside0.mk ((by rw [hg]; exact Nat.ne_of_lt (bl BK552) : gb552 ≠ gb556)); have NB556_552 := Aside0.mk ((by rw [hg]; exact Nat.ne_of_gt (bl BK552) : gb556 ≠ gb552)); replace BK552 := kb BK552 hb; clear hb hbox hg; have hnb92 := NB556_538.out; have hnc92 := NB538_556.out; have hnb93 := NB556_552.out; have hnc93 := NB552_556.out; obtain ⟨hcz94_0, hcz94_1, hfz94_0, hfz94_1⟩ := xc2 BK556; obtain ⟨hcz95_0, hcz95_1, hfz95_0, hfz95_1⟩ := xc2 BK538) | ((with_reducible refine gate_callee (f := 18) rfl ?_); refine zC 43 Tryz.func18 #[.slice A0 l0.length c0, .agg #[.int .i64 a1_0, .int .i64 a1_1]] ?_; (with_reducible refine (exact_Has.calls _ _ l0 a1_0 a1_1 t557 t558 _ ?side1 ?side2 A12.out).mono ?_); (case side1 => exact Kd.C_below HR0.out bz); (case side2 => exact HC0.out); rintro e w96 ⟨rfl, hb⟩; refine ⟨_, rfl, ?_⟩; replace HO544 := Aside0.mk (Kd.R_below (by (with_reducible repeat (first | apply Kd.R_alloc | apply Kd.R_drewN | apply Kd.R_drew)); exact (Kd.R_mono (Kd.R_far (p := ⟨gb556, 1, none⟩) (Kd.R_far (p := ⟨gb556, 0, none⟩) (Kd.R_types HO544.out BK556.out (by decide)) (fun _ hk => hk.2) (.int .i64 t553)) (fun _ hk => hk.2) (.int .i64 t554)) (fun _ h_ => h_.1))) hb); replace HO548 := Aside0.mk (Kd.R_below (by (with_reducible repeat (first | apply Kd.R_alloc | apply Kd.R_drewN | apply Kd.R_drew)); exact (Kd.R_mono (Kd.R_far (p := ⟨gb556, 1, none⟩) (Kd.R_far (p := ⟨gb556, 0, none⟩) (Kd.R_types HO548.out BK556.out (by decide)) (fun _ hk => hk.2) (.int .i64 t553)) (fun _ hk => hk.2) (.int .i64 t554)) (fun _ h_ => h_.1))) hb); replace BK538 := Aside0.mk (blk_below (g := gb538) (o := .cells #[.int .i64 a1_0, .int .i64 a1_1] 24 (0, 0)) (by (with_reducible repeat (first | refine blk_drewN ?_ _ | refine blk_drew ?_ | refine blk_alloc ?_ _)); refine blk_far ?_ NB538_556.out _; (with_reducible repeat (first | refine blk_drewN ?_ _ | refine blk_drew ?_ | refine blk_alloc ?_ _)); refine blk_far ?_ NB538_556.out _; (with_reducible repeat (first | refine blk_drewN ?_ _ | refine blk_drew ?_ | refine blk_alloc ?_ _)); exact BK538.out) hb); replace BK552 := Aside0.mk (blk_below (g := gb552) (o := .cells #[.int .i64 t549, .int .i64 t550] 24 (0, 0)) (by (with_reducible repeat (first | refine blk_drewN ?_ _ | refine blk_drew ?_ | refine blk_alloc ?_ _)); refine blk_far ?_ NB552_556.out _; (with_reducible repeat (first | refine blk_drewN ?_ _ | refine blk_drew ?_ | refine blk_alloc ?_ _)); refine blk_far ?_ NB552_556.out _; (with_reducible repeat (first | refine blk_drewN ?_ _ | refine blk_drew ?_ | refine blk_alloc ?_ _)); exact BK552.out) hb); replace BK556 := Aside0.mk (blk_below (g := gb556) (o := .cells #[.int .i64 t553, .int .i64 t554] 24 (0, 0)) (by (with_reducible repeat (first | refine blk_drewN ?_ _ | refine blk_drew ?_ | refine blk_alloc ?_ _)); refine blk_put (cs := #[.int .i64 t553, .int .i64 0]) ?_ 1 _ rfl; (with_reducible repeat (first | refine blk_drewN ?_ _ | refine blk_drew ?_ | refine blk_alloc ?_ _)); refine blk_put (cs := #[.int .i64 0, .int .i64 0]) ?_ 0 _ rfl; (with_reducible repeat (first | refine blk_drewN ?_ _ | refine blk_drew ?_ | refine blk_alloc ?_ _)); exact BK556.out) hb); replace HB := bp hb; clear hb; obtain ⟨hcz97_0, hcz97_1, hfz97_0, hfz97_1⟩ := xc2 BK538) | ((with_reducible refine gate_callee (f := 19) rfl ?_); refine zC 49 Tryz.func19 #[.slice A0 l0.length c0, .agg #[.int .i64 a1_0, .int .i64 a1_1]] ?_; (with_reducible refine (dioramaref02_Has.calls k _ _ l0 a1_0 a1_1 t559 t560 _ ?side1 ?side2 A13.out).mono ?_); (case side1 => exact cz HR0); (case side2 => exact HC0.out); rintro e w98 ⟨rfl, hb⟩; refine ⟨_, rfl, ?_⟩; replace HO544 := Aside0.mk (Kd.R_below (rz HO544) hb); replace HO548 := Aside0.mk (Kd.R_below (rz HO548) hb); replace BK538 := kb BK538 hb; replace BK552 := kb BK552 hb; replace BK556 := kb BK556 hb; replace HB := bp hb; clear hb; obtain ⟨Ao99, co99, eo99⟩ := Kd.R_slice HO544.out; subst eo99; obtain ⟨Ao100, co100, eo100⟩ := Kd.R_slice HO548.out; subst eo100) | ((with_reducible refine gate_callee (f := 13) rfl ?_); refine zC 54 Tryz.func13 #[.slice Ao99 t541.length co99, .slice Ao100 t545.length co100] ?_; (with_reducible refine (dioramaref02_EqSpans.calls k _ _ t541 _ _ t545 true _ ?side1 ?side2 ?side3 ?side4 A14.out).mono ?_); (case side1 => exact cr HO544); (case side2 => exact (Kd.R_reads' HO544.out).2.1); (case side3 => exact cr HO548); (case side4 => exact (Kd.R_reads' HO548.out).2.1); rintro e w' ⟨rfl, ⟨nd, rfl⟩⟩; refine ⟨_, rfl, ?_⟩; obtain ⟨hcz101_0, hcz101_1, hfz101_0, hfz101_1⟩ := xc2 BK552; obtain ⟨hcz102_0, hcz102_1, hfz102_0, hfz102_1⟩ := xc2 BK556))
      go_ret
      exact ⟨ez, bz⟩
    ·rw [if_neg c17] at H; have c17b0 : (t549 == t553 && (t550 == t554)) = false := by simpa using c17
     (try (have c17b1 : decide (t549 = t553 && (t550 == t554)) = false := by simpa using c17))
     (try (have c17b2 : (t549 == t553 && (t550 == t554)) = false := by simpa using c17))
     (try (have c17b3 : ¬ (t549 = t553 && (t550 == t554)) := by simpa using c17))
     clear c17; obtain rfl := Option.some.inj H
     go_enter Tryz.func4, Tryz.ntmps4
     go_wp2_with (first | ((with_reducible refine gate_dst (N := 3) rfl ?_); refine zB 3 24 #[.int .i64 a1_0, .int .i64 a1_1] ?_; intro gb538 hg w103 hbox hb; have BK538 := Aside0.mk hbox; have GW538 := gz hg; have GE538 := gz hg; replace HB := bp hb; clear hb hbox hg) | ((with_reducible refine gate_callee (f := 9) rfl ?_); refine zC 18 Tryz.func9 #[.slice A0 l0.length c0] ?_; (with_reducible refine (dioramalaw02_many.calls _ _ l0 false _ ?side1 ?side2 A3.out).mono ?_); (case side1 => exact cz HR0); (case side2 => exact HC0.out); rintro e w' ⟨rfl, ⟨nd, rfl⟩⟩; refine ⟨_, rfl, ?_⟩; (try (rw [drewN_self w103]; generalize hq_ : World.drewN w103 _ = w103; have n0_ : Aside0 (w103.heap[gb538]? = some (.cells #[.int .i64 a1_0, .int .i64 a1_1] 24 (0, 0))) := ⟨by rw [← hq_]; exact kz⟩; have n1_ : Aside0 (Below w.heap.size w w103) := ⟨by rw [← hq_]; exact bz⟩; clear BK538 HB hq_; have BK538 := n0_; have HB := n1_; clear n0_ n1_))) | ((with_reducible refine gate_callee (f := 14) rfl ?_); refine zC 22 Tryz.func14 #[.slice A0 l0.length c0] ?_; (with_reducible refine (exact_Clean.calls _ _ l0 t541 t542 _ ?side1 ?side2 A8.out).mono ?_); (case side1 => exact cz HR0); (case side2 => exact HC0.out); rintro e w104 ⟨v543, rfl, ho0, hb⟩; refine ⟨_, rfl, ?_⟩; have HO544 := Aside0.mk (Kd.R_lower ho0 sz); replace BK538 := kb BK538 hb; replace HB := bp hb; clear hb ho0) | ((with_reducible refine gate_callee (f := 15) rfl ?_); refine zC 27 Tryz.func15 #[.slice A0 l0.length c0] ?_; (with_reducible refine (dioramaref02_Clean.calls k _ _ l0 t545 t546 _ ?side1 ?side2 A9.out).mono ?_); (case side1 => exact cz HR0); (case side2 => exact HC0.out); rintro e w105 ⟨v547, rfl, ho0, hb⟩; refine ⟨_, rfl, ?_⟩; have HO548 := Aside0.mk (Kd.R_lower (Kd.R_new' ho0 (Kd.R_lt (rz HO544))) sz); replace HO544 := Aside0.mk (Kd.R_elder' (rz HO544) (Kd.R_base ho0) hb); replace BK538 := kb BK538 hb; replace HB := bp hb; clear hb ho0) | ((with_reducible refine gate_callee (f := 16) rfl ?_); refine zC 32 Tryz.func16 #[.slice A0 l0.length c0] ?_; (with_reducible refine (exact_Total.calls _ _ l0 t549 t550 t551 _ ?side1 ?side2 A10.out).mono ?_); (case side1 => exact cz HR0); (case side2 => exact HC0.out); rintro e w106 ⟨rfl, hb⟩; refine ⟨_, rfl, ?_⟩; replace HO544 := Aside0.mk (Kd.R_below (rz HO544) hb); replace HO548 := Aside0.mk (Kd.R_below (rz HO548) hb); replace BK538 := kb BK538 hb; replace HB := bp hb; clear hb) | ((with_reducible refine gate_dst (N := 9) rfl ?_); refine zB 9 24 #[.int .i64 0, .int .i64 0] ?_; intro gb552 hg w107 hbox hb; replace HO544 := Aside0.mk (Kd.R_below (rz HO544) hb); replace HO548 := Aside0.mk (Kd.R_below (rz HO548) hb); have BK552 := Aside0.mk hbox; have GW552 := gz hg; have GE552 := gz hg; replace HB := bp hb; have NB538_552 := Aside0.mk ((by rw [hg]; exact Nat.ne_of_lt (bl BK538) : gb538 ≠ gb552)); have NB552_538 := Aside0.mk ((by rw [hg]; exact Nat.ne_of_gt (bl BK538) : gb552 ≠ gb538)); replace BK538 := kb BK538 hb; clear hb hbox hg; have hnb108 := NB552_538.out; have hnc108 := NB538_552.out; obtain ⟨hcz109_0, hcz109_1, hfz109_0, hfz109_1⟩ := xc2 BK552) | ((with_reducible refine gate_callee (f := 17) rfl ?_); refine zC 37 Tryz.func17 #[.slice A0 l0.length c0] ?_; (with_reducible refine (dioramaref02_Total.calls k _ _ l0 t553 t554 t555 _ ?side1 ?side2 A11.out).mono ?_); (case side1 => exact Kd.C_below HR0.out bz); (case side2 => exact HC0.out); rintro e w110 ⟨rfl, hb⟩; refine ⟨_, rfl, ?_⟩; replace HO544 := Aside0.mk (Kd.R_below (by (with_reducible repeat (first | apply Kd.R_alloc | apply Kd.R_drewN | apply Kd.R_drew)); exact (Kd.R_mono (Kd.R_far (p := ⟨gb552, 1, none⟩) (Kd.R_far (p := ⟨gb552, 0, none⟩) (Kd.R_types HO544.out BK552.out (by decide)) (fun _ hk => hk.2) (.int .i64 t549)) (fun _ hk => hk.2) (.int .i64 t550)) (fun _ h_ => h_.1))) hb); replace HO548 := Aside0.mk (Kd.R_below (by (with_reducible repeat (first | apply Kd.R_alloc | apply Kd.R_drewN | apply Kd.R_drew)); exact (Kd.R_mono (Kd.R_far (p := ⟨gb552, 1, none⟩) (Kd.R_far (p := ⟨gb552, 0, none⟩) (Kd.R_types HO548.out BK552.out (by decide)) (fun _ hk => hk.2) (.int .i64 t549)) (fun _ hk => hk.2) (.int .i64 t550)) (fun _ h_ => h_.1))) hb); replace BK538 := Aside0.mk (blk_below (g := gb538) (o := .cells #[.int .i64 a1_0, .int .i64 a1_1] 24 (0, 0)) (by (with_reducible repeat (first | refine blk_drewN ?_ _ | refine blk_drew ?_ | refine blk_alloc ?_ _)); refine blk_far ?_ NB538_552.out _; (with_reducible repeat (first | refine blk_drewN ?_ _ | refine blk_drew ?_ | refine blk_alloc ?_ _)); refine blk_far ?_ NB538_552.out _; (with_reducible repeat (first | refine blk_drewN ?_ _ | refine blk_drew ?_ | refine blk_alloc ?_ _)); exact BK538.out) hb); replace BK552 := Aside0.mk (blk_below (g := gb552) (o := .cells #[.int .i64 t549, .int .i64 t550] 24 (0, 0)) (by (with_reducible repeat (first | refine blk_drewN ?_ _ | refine blk_drew ?_ | refine blk_alloc ?_ _)); refine blk_put (cs := #[.int .i64 t549, .int .i64 0]) ?_ 1 _ rfl; (with_reducible repeat (first | refine blk_drewN ?_ _ | refine blk_drew ?_ | refine blk_alloc ?_ _)); refine blk_put (cs := #[.int .i64 0, .int .i64 0]) ?_ 0 _ rfl; (with_reducible repeat (first | refine blk_drewN ?_ _ | refine blk_drew ?_ | refine blk_alloc ?_ _)); exact BK552.out) hb); replace HB := bp hb; clear hb) | ((with_reducible refine gate_dst (N := 11) rfl ?_); refine zB 11 24 #[.int .i64 0, .int .i64 0] ?_; intro gb556 hg w111 hbox hb; replace HO544 := Aside0.mk (Kd.R_below (rz HO544) hb); replace HO548 := Aside0.mk (Kd.R_below (rz HO548) hb); have BK556 := Aside0.mk hbox; have GW556 := gz hg; have GE556 := gz hg; replace HB := bp hb; have NB538_556 := Aside0.mk ((by rw [hg]; exact Nat.ne_of_lt (bl BK538) : gb538 ≠ gb556)); have NB556_538 := Aside0.mk ((by rw [hg]; exact Nat.ne_of_gt (bl BK538) : gb556 ≠ gb538)); replace BK538 := kb BK538 hb; have NB552_556 := Aside0.mk ((by rw [hg]; exact Nat.ne_of_lt (bl BK552) : gb552 ≠ gb556)); have NB556_552 := Aside0.mk ((by rw [hg]; exact Nat.ne_of_gt (bl BK552) : gb556 ≠ gb552)); replace BK552 := kb BK552 hb; clear hb hbox hg; have hnb112 := NB556_538.out; have hnc112 := NB538_556.out; have hnb113 := NB556_552.out; have hnc113 := NB552_556.out; obtain ⟨hcz114_0, hcz114_1, hfz114_0, hfz114_1⟩ := xc2 BK556; obtain ⟨hcz115_0, hcz115_1, hfz115_0, hfz115_1⟩ := xc2 BK538) | ((with_reducible refine gate_callee (f := 18) rfl ?_); refine zC 43 Tryz.func18 #[.slice A0 l0.length c0, .agg #[.int .i64 a1_0, .int .i64 a1_1]] ?_; (with_reducible refine (exact_Has.calls _ _ l0 a1_0 a1_1 t557 t558 _ ?side1 ?side2 A12.out).mono ?_); (case side1 => exact Kd.C_below HR0.out bz); (case side2 => exact HC0.out); rintro e w116 ⟨rfl, hb⟩; refine ⟨_, rfl, ?_⟩; replace HO544 := Aside0.mk (Kd.R_below (by (with_reducible repeat (first | apply Kd.R_alloc | apply Kd.R_drewN | apply Kd.R_drew)); exact (Kd.R_mono (Kd.R_far (p := ⟨gb556, 1, none⟩) (Kd.R_far (p := ⟨gb556, 0, none⟩) (Kd.R_types HO544.out BK556.out (by decide)) (fun _ hk => hk.2) (.int .i64 t553)) (fun _ hk => hk.2) (.int .i64 t554)) (fun _ h_ => h_.1))) hb); replace HO548 := Aside0.mk (Kd.R_below (by (with_reducible repeat (first | apply Kd.R_alloc | apply Kd.R_drewN | apply Kd.R_drew)); exact (Kd.R_mono (Kd.R_far (p := ⟨gb556, 1, none⟩) (Kd.R_far (p := ⟨gb556, 0, none⟩) (Kd.R_types HO548.out BK556.out (by decide)) (fun _ hk => hk.2) (.int .i64 t553)) (fun _ hk => hk.2) (.int .i64 t554)) (fun _ h_ => h_.1))) hb); replace BK538 := Aside0.mk (blk_below (g := gb538) (o := .cells #[.int .i64 a1_0, .int .i64 a1_1] 24 (0, 0)) (by (with_reducible repeat (first | refine blk_drewN ?_ _ | refine blk_drew ?_ | refine blk_alloc ?_ _)); refine blk_far ?_ NB538_556.out _; (with_reducible repeat (first | refine blk_drewN ?_ _ | refine blk_drew ?_ | refine blk_alloc ?_ _)); refine blk_far ?_ NB538_556.out _; (with_reducible repeat (first | refine blk_drewN ?_ _ | refine blk_drew ?_ | refine blk_alloc ?_ _)); exact BK538.out) hb); replace BK552 := Aside0.mk (blk_below (g := gb552) (o := .cells #[.int .i64 t549, .int .i64 t550] 24 (0, 0)) (by (with_reducible repeat (first | refine blk_drewN ?_ _ | refine blk_drew ?_ | refine blk_alloc ?_ _)); refine blk_far ?_ NB552_556.out _; (with_reducible repeat (first | refine blk_drewN ?_ _ | refine blk_drew ?_ | refine blk_alloc ?_ _)); refine blk_far ?_ NB552_556.out _; (with_reducible repeat (first | refine blk_drewN ?_ _ | refine blk_drew ?_ | refine blk_alloc ?_ _)); exact BK552.out) hb); replace BK556 := Aside0.mk (blk_below (g := gb556) (o := .cells #[.int .i64 t553, .int .i64 t554] 24 (0, 0)) (by (with_reducible repeat (first | refine blk_drewN ?_ _ | refine blk_drew ?_ | refine blk_alloc ?_ _)); refine blk_put (cs := #[.int .i64 t553, .int .i64 0]) ?_ 1 _ rfl; (with_reducible repeat (first | refine blk_drewN ?_ _ | refine blk_drew ?_ | refine blk_alloc ?_ _)); refine blk_put (cs := #[.int .i64 0, .int .i64 0]) ?_ 0 _ rfl; (with_reducible repeat (first | refine blk_drewN ?_ _ | refine blk_drew ?_ | refine blk_alloc ?_ _)); exact BK556.out) hb); replace HB := bp hb; clear hb; obtain ⟨hcz117_0, hcz117_1, hfz117_0, hfz117_1⟩ := xc2 BK538) | ((with_reducible refine gate_callee (f := 19) rfl ?_); refine zC 49 Tryz.func19 #[.slice A0 l0.length c0, .agg #[.int .i64 a1_0, .int .i64 a1_1]] ?_; (with_reducible refine (dioramaref02_Has.calls k _ _ l0 a1_0 a1_1 t559 t560 _ ?side1 ?side2 A13.out).mono ?_); (case side1 => exact cz HR0); (case side2 => exact HC0.out); rintro e w118 ⟨rfl, hb⟩; refine ⟨_, rfl, ?_⟩; replace HO544 := Aside0.mk (Kd.R_below (rz HO544) hb); replace HO548 := Aside0.mk (Kd.R_below (rz HO548) hb); replace BK538 := kb BK538 hb; replace BK552 := kb BK552 hb; replace BK556 := kb BK556 hb; replace HB := bp hb; clear hb; obtain ⟨Ao119, co119, eo119⟩ := Kd.R_slice HO544.out; subst eo119; obtain ⟨Ao120, co120, eo120⟩ := Kd.R_slice HO548.out; subst eo120) | ((with_reducible refine gate_callee (f := 13) rfl ?_); refine zC 54 Tryz.func13 #[.slice Ao119 t541.length co119, .slice Ao120 t545.length co120] ?_; (with_reducible refine (dioramaref02_EqSpans.calls k _ _ t541 _ _ t545 true _ ?side1 ?side2 ?side3 ?side4 A14.out).mono ?_); (case side1 => exact cr HO544); (case side2 => exact (Kd.R_reads' HO544.out).2.1); (case side3 => exact cr HO548); (case side4 => exact (Kd.R_reads' HO548.out).2.1); rintro e w' ⟨rfl, ⟨nd, rfl⟩⟩; refine ⟨_, rfl, ?_⟩; obtain ⟨hcz121_0, hcz121_1, hfz121_0, hfz121_1⟩ := xc2 BK552; obtain ⟨hcz122_0, hcz122_1, hfz122_0, hfz122_1⟩ := xc2 BK556))
     go_ret
     exact ⟨ez, bz⟩
   ·rw [if_neg c16] at H; have c16b0 : (t542 == t546) = false := beq_eq_false_iff_ne.mpr c16; have c16b1 : (t542 != t546) = true := bne_iff_ne.mpr c16; obtain rfl := Option.some.inj H
    go_enter Tryz.func4, Tryz.ntmps4
    go_wp2_with (first | ((with_reducible refine gate_dst (N := 3) rfl ?_); refine zB 3 24 #[.int .i64 a1_0, .int .i64 a1_1] ?_; intro gb538 hg w123 hbox hb; have BK538 := Aside0.mk hbox; have GW538 := gz hg; have GE538 := gz hg; replace HB := bp hb; clear hb hbox hg) | ((with_reducible refine gate_callee (f := 9) rfl ?_); refine zC 18 Tryz.func9 #[.slice A0 l0.length c0] ?_; (with_reducible refine (dioramalaw02_many.calls _ _ l0 false _ ?side1 ?side2 A3.out).mono ?_); (case side1 => exact cz HR0); (case side2 => exact HC0.out); rintro e w' ⟨rfl, ⟨nd, rfl⟩⟩; refine ⟨_, rfl, ?_⟩; (try (rw [drewN_self w123]; generalize hq_ : World.drewN w123 _ = w123; have n0_ : Aside0 (w123.heap[gb538]? = some (.cells #[.int .i64 a1_0, .int .i64 a1_1] 24 (0, 0))) := ⟨by rw [← hq_]; exact kz⟩; have n1_ : Aside0 (Below w.heap.size w w123) := ⟨by rw [← hq_]; exact bz⟩; clear BK538 HB hq_; have BK538 := n0_; have HB := n1_; clear n0_ n1_))) | ((with_reducible refine gate_callee (f := 14) rfl ?_); refine zC 22 Tryz.func14 #[.slice A0 l0.length c0] ?_; (with_reducible refine (exact_Clean.calls _ _ l0 t541 t542 _ ?side1 ?side2 A8.out).mono ?_); (case side1 => exact cz HR0); (case side2 => exact HC0.out); rintro e w124 ⟨v543, rfl, ho0, hb⟩; refine ⟨_, rfl, ?_⟩; have HO544 := Aside0.mk (Kd.R_lower ho0 sz); replace BK538 := kb BK538 hb; replace HB := bp hb; clear hb ho0) | ((with_reducible refine gate_callee (f := 15) rfl ?_); refine zC 27 Tryz.func15 #[.slice A0 l0.length c0] ?_; (with_reducible refine (dioramaref02_Clean.calls k _ _ l0 t545 t546 _ ?side1 ?side2 A9.out).mono ?_); (case side1 => exact cz HR0); (case side2 => exact HC0.out); rintro e w125 ⟨v547, rfl, ho0, hb⟩; refine ⟨_, rfl, ?_⟩; have HO548 := Aside0.mk (Kd.R_lower (Kd.R_new' ho0 (Kd.R_lt (rz HO544))) sz); replace HO544 := Aside0.mk (Kd.R_elder' (rz HO544) (Kd.R_base ho0) hb); replace BK538 := kb BK538 hb; replace HB := bp hb; clear hb ho0) | ((with_reducible refine gate_callee (f := 16) rfl ?_); refine zC 32 Tryz.func16 #[.slice A0 l0.length c0] ?_; (with_reducible refine (exact_Total.calls _ _ l0 t549 t550 t551 _ ?side1 ?side2 A10.out).mono ?_); (case side1 => exact cz HR0); (case side2 => exact HC0.out); rintro e w126 ⟨rfl, hb⟩; refine ⟨_, rfl, ?_⟩; replace HO544 := Aside0.mk (Kd.R_below (rz HO544) hb); replace HO548 := Aside0.mk (Kd.R_below (rz HO548) hb); replace BK538 := kb BK538 hb; replace HB := bp hb; clear hb) | ((with_reducible refine gate_dst (N := 9) rfl ?_); refine zB 9 24 #[.int .i64 0, .int .i64 0] ?_; intro gb552 hg w127 hbox hb; replace HO544 := Aside0.mk (Kd.R_below (rz HO544) hb); replace HO548 := Aside0.mk (Kd.R_below (rz HO548) hb); have BK552 := Aside0.mk hbox; have GW552 := gz hg; have GE552 := gz hg; replace HB := bp hb; have NB538_552 := Aside0.mk ((by rw [hg]; exact Nat.ne_of_lt (bl BK538) : gb538 ≠ gb552)); have NB552_538 := Aside0.mk ((by rw [hg]; exact Nat.ne_of_gt (bl BK538) : gb552 ≠ gb538)); replace BK538 := kb BK538 hb; clear hb hbox hg; have hnb128 := NB552_538.out; have hnc128 := NB538_552.out; obtain ⟨hcz129_0, hcz129_1, hfz129_0, hfz129_1⟩ := xc2 BK552) | ((with_reducible refine gate_callee (f := 17) rfl ?_); refine zC 37 Tryz.func17 #[.slice A0 l0.length c0] ?_; (with_reducible refine (dioramaref02_Total.calls k _ _ l0 t553 t554 t555 _ ?side1 ?side2 A11.out).mono ?_); (case side1 => exact Kd.C_below HR0.out bz); (case side2 => exact HC0.out); rintro e w130 ⟨rfl, hb⟩; refine ⟨_, rfl, ?_⟩; replace HO544 := Aside0.mk (Kd.R_below (by (with_reducible repeat (first | apply Kd.R_alloc | apply Kd.R_drewN | apply Kd.R_drew)); exact (Kd.R_mono (Kd.R_far (p := ⟨gb552, 1, none⟩) (Kd.R_far (p := ⟨gb552, 0, none⟩) (Kd.R_types HO544.out BK552.out (by decide)) (fun _ hk => hk.2) (.int .i64 t549)) (fun _ hk => hk.2) (.int .i64 t550)) (fun _ h_ => h_.1))) hb); replace HO548 := Aside0.mk (Kd.R_below (by (with_reducible repeat (first | apply Kd.R_alloc | apply Kd.R_drewN | apply Kd.R_drew)); exact (Kd.R_mono (Kd.R_far (p := ⟨gb552, 1, none⟩) (Kd.R_far (p := ⟨gb552, 0, none⟩) (Kd.R_types HO548.out BK552.out (by decide)) (fun _ hk => hk.2) (.int .i64 t549)) (fun _ hk => hk.2) (.int .i64 t550)) (fun _ h_ => h_.1))) hb); replace BK538 := Aside0.mk (blk_below (g := gb538) (o := .cells #[.int .i64 a1_0, .int .i64 a1_1] 24 (0, 0)) (by (with_reducible repeat (first | refine blk_drewN ?_ _ | refine blk_drew ?_ | refine blk_alloc ?_ _)); refine blk_far ?_ NB538_552.out _; (with_reducible repeat (first | refine blk_drewN ?_ _ | refine blk_drew ?_ | refine blk_alloc ?_ _)); refine blk_far ?_ NB538_552.out _; (with_reducible repeat (first | refine blk_drewN ?_ _ | refine blk_drew ?_ | refine blk_alloc ?_ _)); exact BK538.out) hb); replace BK552 := Aside0.mk (blk_below (g := gb552) (o := .cells #[.int .i64 t549, .int .i64 t550] 24 (0, 0)) (by (with_reducible repeat (first | refine blk_drewN ?_ _ | refine blk_drew ?_ | refine blk_alloc ?_ _)); refine blk_put (cs := #[.int .i64 t549, .int .i64 0]) ?_ 1 _ rfl; (with_reducible repeat (first | refine blk_drewN ?_ _ | refine blk_drew ?_ | refine blk_alloc ?_ _)); refine blk_put (cs := #[.int .i64 0, .int .i64 0]) ?_ 0 _ rfl; (with_reducible repeat (first | refine blk_drewN ?_ _ | refine blk_drew ?_ | refine blk_alloc ?_ _)); exact BK552.out) hb); replace HB := bp hb; clear hb) | ((with_reducible refine gate_dst (N := 11) rfl ?_); refine zB 11 24 #[.int .i64 0, .int .i64 0] ?_; intro gb556 hg w131 hbox hb; replace HO544 := Aside0.mk (Kd.R_below (rz HO544) hb); replace HO548 := Aside0.mk (Kd.R_below (rz HO548) hb); have BK556 := Aside0.mk hbox; have GW556 := gz hg; have GE556 := gz hg; replace HB := bp hb; have NB538_556 := Aside0.mk ((by rw [hg]; exact Nat.ne_of_lt (bl BK538) : gb538 ≠ gb556)); have NB556_538 := Aside0.mk ((by rw [hg]; exact Nat.ne_of_gt (bl BK538) : gb556 ≠ gb538)); replace BK538 := kb BK538 hb; have NB552_556 := Aside0.mk ((by rw [hg]; exact Nat.ne_of_lt (bl BK552) : gb552 ≠ gb556)); have NB556_552 := Aside0.mk ((by rw [hg]; exact Nat.ne_of_gt (bl BK552) : gb556 ≠ gb552)); replace BK552 := kb BK552 hb; clear hb hbox hg; have hnb132 := NB556_538.out; have hnc132 := NB538_556.out; have hnb133 := NB556_552.out; have hnc133 := NB552_556.out; obtain ⟨hcz134_0, hcz134_1, hfz134_0, hfz134_1⟩ := xc2 BK556; obtain ⟨hcz135_0, hcz135_1, hfz135_0, hfz135_1⟩ := xc2 BK538) | ((with_reducible refine gate_callee (f := 18) rfl ?_); refine zC 43 Tryz.func18 #[.slice A0 l0.length c0, .agg #[.int .i64 a1_0, .int .i64 a1_1]] ?_; (with_reducible refine (exact_Has.calls _ _ l0 a1_0 a1_1 t557 t558 _ ?side1 ?side2 A12.out).mono ?_); (case side1 => exact Kd.C_below HR0.out bz); (case side2 => exact HC0.out); rintro e w136 ⟨rfl, hb⟩; refine ⟨_, rfl, ?_⟩; replace HO544 := Aside0.mk (Kd.R_below (by (with_reducible repeat (first | apply Kd.R_alloc | apply Kd.R_drewN | apply Kd.R_drew)); exact (Kd.R_mono (Kd.R_far (p := ⟨gb556, 1, none⟩) (Kd.R_far (p := ⟨gb556, 0, none⟩) (Kd.R_types HO544.out BK556.out (by decide)) (fun _ hk => hk.2) (.int .i64 t553)) (fun _ hk => hk.2) (.int .i64 t554)) (fun _ h_ => h_.1))) hb); replace HO548 := Aside0.mk (Kd.R_below (by (with_reducible repeat (first | apply Kd.R_alloc | apply Kd.R_drewN | apply Kd.R_drew)); exact (Kd.R_mono (Kd.R_far (p := ⟨gb556, 1, none⟩) (Kd.R_far (p := ⟨gb556, 0, none⟩) (Kd.R_types HO548.out BK556.out (by decide)) (fun _ hk => hk.2) (.int .i64 t553)) (fun _ hk => hk.2) (.int .i64 t554)) (fun _ h_ => h_.1))) hb); replace BK538 := Aside0.mk (blk_below (g := gb538) (o := .cells #[.int .i64 a1_0, .int .i64 a1_1] 24 (0, 0)) (by (with_reducible repeat (first | refine blk_drewN ?_ _ | refine blk_drew ?_ | refine blk_alloc ?_ _)); refine blk_far ?_ NB538_556.out _; (with_reducible repeat (first | refine blk_drewN ?_ _ | refine blk_drew ?_ | refine blk_alloc ?_ _)); refine blk_far ?_ NB538_556.out _; (with_reducible repeat (first | refine blk_drewN ?_ _ | refine blk_drew ?_ | refine blk_alloc ?_ _)); exact BK538.out) hb); replace BK552 := Aside0.mk (blk_below (g := gb552) (o := .cells #[.int .i64 t549, .int .i64 t550] 24 (0, 0)) (by (with_reducible repeat (first | refine blk_drewN ?_ _ | refine blk_drew ?_ | refine blk_alloc ?_ _)); refine blk_far ?_ NB552_556.out _; (with_reducible repeat (first | refine blk_drewN ?_ _ | refine blk_drew ?_ | refine blk_alloc ?_ _)); refine blk_far ?_ NB552_556.out _; (with_reducible repeat (first | refine blk_drewN ?_ _ | refine blk_drew ?_ | refine blk_alloc ?_ _)); exact BK552.out) hb); replace BK556 := Aside0.mk (blk_below (g := gb556) (o := .cells #[.int .i64 t553, .int .i64 t554] 24 (0, 0)) (by (with_reducible repeat (first | refine blk_drewN ?_ _ | refine blk_drew ?_ | refine blk_alloc ?_ _)); refine blk_put (cs := #[.int .i64 t553, .int .i64 0]) ?_ 1 _ rfl; (with_reducible repeat (first | refine blk_drewN ?_ _ | refine blk_drew ?_ | refine blk_alloc ?_ _)); refine blk_put (cs := #[.int .i64 0, .int .i64 0]) ?_ 0 _ rfl; (with_reducible repeat (first | refine blk_drewN ?_ _ | refine blk_drew ?_ | refine blk_alloc ?_ _)); exact BK556.out) hb); replace HB := bp hb; clear hb; obtain ⟨hcz137_0, hcz137_1, hfz137_0, hfz137_1⟩ := xc2 BK538) | ((with_reducible refine gate_callee (f := 19) rfl ?_); refine zC 49 Tryz.func19 #[.slice A0 l0.length c0, .agg #[.int .i64 a1_0, .int .i64 a1_1]] ?_; (with_reducible refine (dioramaref02_Has.calls k _ _ l0 a1_0 a1_1 t559 t560 _ ?side1 ?side2 A13.out).mono ?_); (case side1 => exact cz HR0); (case side2 => exact HC0.out); rintro e w138 ⟨rfl, hb⟩; refine ⟨_, rfl, ?_⟩; replace HO544 := Aside0.mk (Kd.R_below (rz HO544) hb); replace HO548 := Aside0.mk (Kd.R_below (rz HO548) hb); replace BK538 := kb BK538 hb; replace BK552 := kb BK552 hb; replace BK556 := kb BK556 hb; replace HB := bp hb; clear hb; obtain ⟨Ao139, co139, eo139⟩ := Kd.R_slice HO544.out; subst eo139; obtain ⟨Ao140, co140, eo140⟩ := Kd.R_slice HO548.out; subst eo140) | ((with_reducible refine gate_callee (f := 13) rfl ?_); refine zC 54 Tryz.func13 #[.slice Ao139 t541.length co139, .slice Ao140 t545.length co140] ?_; (with_reducible refine (dioramaref02_EqSpans.calls k _ _ t541 _ _ t545 true _ ?side1 ?side2 ?side3 ?side4 A14.out).mono ?_); (case side1 => exact cr HO544); (case side2 => exact (Kd.R_reads' HO544.out).2.1); (case side3 => exact cr HO548); (case side4 => exact (Kd.R_reads' HO548.out).2.1); rintro e w' ⟨rfl, ⟨nd, rfl⟩⟩; refine ⟨_, rfl, ?_⟩))
    go_ret
    exact ⟨ez, bz⟩
  ·obtain rfl := bf c15; rw [if_neg (show ¬ (false = true) by decide)] at H; obtain rfl := Option.some.inj H
   go_enter Tryz.func4, Tryz.ntmps4
   go_wp2_with (first | ((with_reducible refine gate_dst (N := 3) rfl ?_); refine zB 3 24 #[.int .i64 a1_0, .int .i64 a1_1] ?_; intro gb538 hg w141 hbox hb; have BK538 := Aside0.mk hbox; have GW538 := gz hg; have GE538 := gz hg; replace HB := bp hb; clear hb hbox hg) | ((with_reducible refine gate_callee (f := 9) rfl ?_); refine zC 18 Tryz.func9 #[.slice A0 l0.length c0] ?_; (with_reducible refine (dioramalaw02_many.calls _ _ l0 false _ ?side1 ?side2 A3.out).mono ?_); (case side1 => exact cz HR0); (case side2 => exact HC0.out); rintro e w' ⟨rfl, ⟨nd, rfl⟩⟩; refine ⟨_, rfl, ?_⟩; (try (rw [drewN_self w141]; generalize hq_ : World.drewN w141 _ = w141; have n0_ : Aside0 (w141.heap[gb538]? = some (.cells #[.int .i64 a1_0, .int .i64 a1_1] 24 (0, 0))) := ⟨by rw [← hq_]; exact kz⟩; have n1_ : Aside0 (Below w.heap.size w w141) := ⟨by rw [← hq_]; exact bz⟩; clear BK538 HB hq_; have BK538 := n0_; have HB := n1_; clear n0_ n1_))) | ((with_reducible refine gate_callee (f := 14) rfl ?_); refine zC 22 Tryz.func14 #[.slice A0 l0.length c0] ?_; (with_reducible refine (exact_Clean.calls _ _ l0 t541 t542 _ ?side1 ?side2 A8.out).mono ?_); (case side1 => exact cz HR0); (case side2 => exact HC0.out); rintro e w142 ⟨v543, rfl, ho0, hb⟩; refine ⟨_, rfl, ?_⟩; have HO544 := Aside0.mk (Kd.R_lower ho0 sz); replace BK538 := kb BK538 hb; replace HB := bp hb; clear hb ho0) | ((with_reducible refine gate_callee (f := 15) rfl ?_); refine zC 27 Tryz.func15 #[.slice A0 l0.length c0] ?_; (with_reducible refine (dioramaref02_Clean.calls k _ _ l0 t545 t546 _ ?side1 ?side2 A9.out).mono ?_); (case side1 => exact cz HR0); (case side2 => exact HC0.out); rintro e w143 ⟨v547, rfl, ho0, hb⟩; refine ⟨_, rfl, ?_⟩; have HO548 := Aside0.mk (Kd.R_lower (Kd.R_new' ho0 (Kd.R_lt (rz HO544))) sz); replace HO544 := Aside0.mk (Kd.R_elder' (rz HO544) (Kd.R_base ho0) hb); replace BK538 := kb BK538 hb; replace HB := bp hb; clear hb ho0) | ((with_reducible refine gate_callee (f := 16) rfl ?_); refine zC 32 Tryz.func16 #[.slice A0 l0.length c0] ?_; (with_reducible refine (exact_Total.calls _ _ l0 t549 t550 t551 _ ?side1 ?side2 A10.out).mono ?_); (case side1 => exact cz HR0); (case side2 => exact HC0.out); rintro e w144 ⟨rfl, hb⟩; refine ⟨_, rfl, ?_⟩; replace HO544 := Aside0.mk (Kd.R_below (rz HO544) hb); replace HO548 := Aside0.mk (Kd.R_below (rz HO548) hb); replace BK538 := kb BK538 hb; replace HB := bp hb; clear hb) | ((with_reducible refine gate_dst (N := 9) rfl ?_); refine zB 9 24 #[.int .i64 0, .int .i64 0] ?_; intro gb552 hg w145 hbox hb; replace HO544 := Aside0.mk (Kd.R_below (rz HO544) hb); replace HO548 := Aside0.mk (Kd.R_below (rz HO548) hb); have BK552 := Aside0.mk hbox; have GW552 := gz hg; have GE552 := gz hg; replace HB := bp hb; have NB538_552 := Aside0.mk ((by rw [hg]; exact Nat.ne_of_lt (bl BK538) : gb538 ≠ gb552)); have NB552_538 := Aside0.mk ((by rw [hg]; exact Nat.ne_of_gt (bl BK538) : gb552 ≠ gb538)); replace BK538 := kb BK538 hb; clear hb hbox hg; have hnb146 := NB552_538.out; have hnc146 := NB538_552.out; obtain ⟨hcz147_0, hcz147_1, hfz147_0, hfz147_1⟩ := xc2 BK552) | ((with_reducible refine gate_callee (f := 17) rfl ?_); refine zC 37 Tryz.func17 #[.slice A0 l0.length c0] ?_; (with_reducible refine (dioramaref02_Total.calls k _ _ l0 t553 t554 t555 _ ?side1 ?side2 A11.out).mono ?_); (case side1 => exact Kd.C_below HR0.out bz); (case side2 => exact HC0.out); rintro e w148 ⟨rfl, hb⟩; refine ⟨_, rfl, ?_⟩; replace HO544 := Aside0.mk (Kd.R_below (by (with_reducible repeat (first | apply Kd.R_alloc | apply Kd.R_drewN | apply Kd.R_drew)); exact (Kd.R_mono (Kd.R_far (p := ⟨gb552, 1, none⟩) (Kd.R_far (p := ⟨gb552, 0, none⟩) (Kd.R_types HO544.out BK552.out (by decide)) (fun _ hk => hk.2) (.int .i64 t549)) (fun _ hk => hk.2) (.int .i64 t550)) (fun _ h_ => h_.1))) hb); replace HO548 := Aside0.mk (Kd.R_below (by (with_reducible repeat (first | apply Kd.R_alloc | apply Kd.R_drewN | apply Kd.R_drew)); exact (Kd.R_mono (Kd.R_far (p := ⟨gb552, 1, none⟩) (Kd.R_far (p := ⟨gb552, 0, none⟩) (Kd.R_types HO548.out BK552.out (by decide)) (fun _ hk => hk.2) (.int .i64 t549)) (fun _ hk => hk.2) (.int .i64 t550)) (fun _ h_ => h_.1))) hb); replace BK538 := Aside0.mk (blk_below (g := gb538) (o := .cells #[.int .i64 a1_0, .int .i64 a1_1] 24 (0, 0)) (by (with_reducible repeat (first | refine blk_drewN ?_ _ | refine blk_drew ?_ | refine blk_alloc ?_ _)); refine blk_far ?_ NB538_552.out _; (with_reducible repeat (first | refine blk_drewN ?_ _ | refine blk_drew ?_ | refine blk_alloc ?_ _)); refine blk_far ?_ NB538_552.out _; (with_reducible repeat (first | refine blk_drewN ?_ _ | refine blk_drew ?_ | refine blk_alloc ?_ _)); exact BK538.out) hb); replace BK552 := Aside0.mk (blk_below (g := gb552) (o := .cells #[.int .i64 t549, .int .i64 t550] 24 (0, 0)) (by (with_reducible repeat (first | refine blk_drewN ?_ _ | refine blk_drew ?_ | refine blk_alloc ?_ _)); refine blk_put (cs := #[.int .i64 t549, .int .i64 0]) ?_ 1 _ rfl; (with_reducible repeat (first | refine blk_drewN ?_ _ | refine blk_drew ?_ | refine blk_alloc ?_ _)); refine blk_put (cs := #[.int .i64 0, .int .i64 0]) ?_ 0 _ rfl; (with_reducible repeat (first | refine blk_drewN ?_ _ | refine blk_drew ?_ | refine blk_alloc ?_ _)); exact BK552.out) hb); replace HB := bp hb; clear hb) | ((with_reducible refine gate_dst (N := 11) rfl ?_); refine zB 11 24 #[.int .i64 0, .int .i64 0] ?_; intro gb556 hg w149 hbox hb; replace HO544 := Aside0.mk (Kd.R_below (rz HO544) hb); replace HO548 := Aside0.mk (Kd.R_below (rz HO548) hb); have BK556 := Aside0.mk hbox; have GW556 := gz hg; have GE556 := gz hg; replace HB := bp hb; have NB538_556 := Aside0.mk ((by rw [hg]; exact Nat.ne_of_lt (bl BK538) : gb538 ≠ gb556)); have NB556_538 := Aside0.mk ((by rw [hg]; exact Nat.ne_of_gt (bl BK538) : gb556 ≠ gb538)); replace BK538 := kb BK538 hb; have NB552_556 := Aside0.mk ((by rw [hg]; exact Nat.ne_of_lt (bl BK552) : gb552 ≠ gb556)); have NB556_552 := Aside0.mk ((by rw [hg]; exact Nat.ne_of_gt (bl BK552) : gb556 ≠ gb552)); replace BK552 := kb BK552 hb; clear hb hbox hg; have hnb150 := NB556_538.out; have hnc150 := NB538_556.out; have hnb151 := NB556_552.out; have hnc151 := NB552_556.out; obtain ⟨hcz152_0, hcz152_1, hfz152_0, hfz152_1⟩ := xc2 BK556; obtain ⟨hcz153_0, hcz153_1, hfz153_0, hfz153_1⟩ := xc2 BK538) | ((with_reducible refine gate_callee (f := 18) rfl ?_); refine zC 43 Tryz.func18 #[.slice A0 l0.length c0, .agg #[.int .i64 a1_0, .int .i64 a1_1]] ?_; (with_reducible refine (exact_Has.calls _ _ l0 a1_0 a1_1 t557 t558 _ ?side1 ?side2 A12.out).mono ?_); (case side1 => exact Kd.C_below HR0.out bz); (case side2 => exact HC0.out); rintro e w154 ⟨rfl, hb⟩; refine ⟨_, rfl, ?_⟩; replace HO544 := Aside0.mk (Kd.R_below (by (with_reducible repeat (first | apply Kd.R_alloc | apply Kd.R_drewN | apply Kd.R_drew)); exact (Kd.R_mono (Kd.R_far (p := ⟨gb556, 1, none⟩) (Kd.R_far (p := ⟨gb556, 0, none⟩) (Kd.R_types HO544.out BK556.out (by decide)) (fun _ hk => hk.2) (.int .i64 t553)) (fun _ hk => hk.2) (.int .i64 t554)) (fun _ h_ => h_.1))) hb); replace HO548 := Aside0.mk (Kd.R_below (by (with_reducible repeat (first | apply Kd.R_alloc | apply Kd.R_drewN | apply Kd.R_drew)); exact (Kd.R_mono (Kd.R_far (p := ⟨gb556, 1, none⟩) (Kd.R_far (p := ⟨gb556, 0, none⟩) (Kd.R_types HO548.out BK556.out (by decide)) (fun _ hk => hk.2) (.int .i64 t553)) (fun _ hk => hk.2) (.int .i64 t554)) (fun _ h_ => h_.1))) hb); replace BK538 := Aside0.mk (blk_below (g := gb538) (o := .cells #[.int .i64 a1_0, .int .i64 a1_1] 24 (0, 0)) (by (with_reducible repeat (first | refine blk_drewN ?_ _ | refine blk_drew ?_ | refine blk_alloc ?_ _)); refine blk_far ?_ NB538_556.out _; (with_reducible repeat (first | refine blk_drewN ?_ _ | refine blk_drew ?_ | refine blk_alloc ?_ _)); refine blk_far ?_ NB538_556.out _; (with_reducible repeat (first | refine blk_drewN ?_ _ | refine blk_drew ?_ | refine blk_alloc ?_ _)); exact BK538.out) hb); replace BK552 := Aside0.mk (blk_below (g := gb552) (o := .cells #[.int .i64 t549, .int .i64 t550] 24 (0, 0)) (by (with_reducible repeat (first | refine blk_drewN ?_ _ | refine blk_drew ?_ | refine blk_alloc ?_ _)); refine blk_far ?_ NB552_556.out _; (with_reducible repeat (first | refine blk_drewN ?_ _ | refine blk_drew ?_ | refine blk_alloc ?_ _)); refine blk_far ?_ NB552_556.out _; (with_reducible repeat (first | refine blk_drewN ?_ _ | refine blk_drew ?_ | refine blk_alloc ?_ _)); exact BK552.out) hb); replace BK556 := Aside0.mk (blk_below (g := gb556) (o := .cells #[.int .i64 t553, .int .i64 t554] 24 (0, 0)) (by (with_reducible repeat (first | refine blk_drewN ?_ _ | refine blk_drew ?_ | refine blk_alloc ?_ _)); refine blk_put (cs := #[.int .i64 t553, .int .i64 0]) ?_ 1 _ rfl; (with_reducible repeat (first | refine blk_drewN ?_ _ | refine blk_drew ?_ | refine blk_alloc ?_ _)); refine blk_put (cs := #[.int .i64 0, .int .i64 0]) ?_ 0 _ rfl; (with_reducible repeat (first | refine blk_drewN ?_ _ | refine blk_drew ?_ | refine blk_alloc ?_ _)); exact BK556.out) hb); replace HB := bp hb; clear hb; obtain ⟨hcz155_0, hcz155_1, hfz155_0, hfz155_1⟩ := xc2 BK538) | ((with_reducible refine gate_callee (f := 19) rfl ?_); refine zC 49 Tryz.func19 #[.slice A0 l0.length c0, .agg #[.int .i64 a1_0, .int .i64 a1_1]] ?_; (with_reducible refine (dioramaref02_Has.calls k _ _ l0 a1_0 a1_1 t559 t560 _ ?side1 ?side2 A13.out).mono ?_); (case side1 => exact cz HR0); (case side2 => exact HC0.out); rintro e w156 ⟨rfl, hb⟩; refine ⟨_, rfl, ?_⟩; replace HO544 := Aside0.mk (Kd.R_below (rz HO544) hb); replace HO548 := Aside0.mk (Kd.R_below (rz HO548) hb); replace BK538 := kb BK538 hb; replace BK552 := kb BK552 hb; replace BK556 := kb BK556 hb; replace HB := bp hb; clear hb; obtain ⟨Ao157, co157, eo157⟩ := Kd.R_slice HO544.out; subst eo157; obtain ⟨Ao158, co158, eo158⟩ := Kd.R_slice HO548.out; subst eo158) | ((with_reducible refine gate_callee (f := 13) rfl ?_); refine zC 54 Tryz.func13 #[.slice Ao157 t541.length co157, .slice Ao158 t545.length co158] ?_; (with_reducible refine (dioramaref02_EqSpans.calls k _ _ t541 _ _ t545 false _ ?side1 ?side2 ?side3 ?side4 A14.out).mono ?_); (case side1 => exact cr HO544); (case side2 => exact (Kd.R_reads' HO544.out).2.1); (case side3 => exact cr HO548); (case side4 => exact (Kd.R_reads' HO548.out).2.1); rintro e w' ⟨rfl, ⟨nd, rfl⟩⟩; refine ⟨_, rfl, ?_⟩))
   go_ret
   exact ⟨ez, bz⟩
end Go.Proofs.YtekommcfpjonmaaGreat.E

namespace Go.Proofs.YtekommcfpjonmaaGreat.Cw
open Go.RowKit Go Go.Proofs.YtekommcfpjonmaaGreatW.PrintWords Go.Proofs.YtekommcfpjonmaaGreatW.PrintLast Go.Proofs.YtekommcfpjonmaaGreatW.PrintMore Go.Proofs.YtekommcfpjonmaaGreat.Mn Go.Proofs.YtekommcfpjonmaaGreat.Rf Go.Proofs.YtekommcfpjonmaaGreat.E Go.Proofs.YtekommcfpjonmaaGreat.Sg Go.Proofs.YtekommcfpjonmaaGreat.Sx Go.Proofs.YtekommcfpjonmaaGreat.Sy Go.Proofs.YtekommcfpjonmaaGreat.Sz Go.Proofs.YtekommcfpjonmaaGreat.Rl Go.Proofs.YtekommcfpjonmaaGreat.Os
set_option linter.unusedVariables false
set_option linter.unusedSimpArgs false
theorem clnV_len (l : List Sn) : (clnV l).1.length ≤ l.length := by
 unfold clnV
 split
 ·exact clnL_len l
 ·simp
theorem pure_Cw (l : List Sn) (t0 t1 : Int) : Ev (fun k => dioramalaw02_ExactCleans.f k l t0 t1) true := by
 have hf : ∀ k, dioramalaw02_ExactCleans.f k l t0 t1 = if decide ((l.length : Int) > 40) = true then some true else ((exact_Clean.f l).bind fun bt541 => ((dioramaref02_Clean.f k l).bind fun bt545 => ((exact_Total.f l).bind fun bt549 => ((dioramaref02_Total.f k l).bind fun bt553 => ((exact_Has.f l t0 t1).bind fun bt557 => ((dioramaref02_Has.f k l t0 t1).bind fun bt559 => ((dioramaref02_EqSpans.f k bt541.1 bt545.1).bind fun t561 => (if t561 = true then (if bt541.2 = bt545.2 then (if (bt549.1 == bt553.1 && (bt549.2.1 == bt553.2.1)) = true then (if bt549.2.2 = bt553.2.2 then (if (bt557.1 == bt559.1) = true then (if bt557.2 = bt559.2 then ((dioramalaw02_awake.f).bind fun t562 => (some t562)) else (some false)) else (some false)) else (some false)) else (some false)) else (some false)) else (some false))))))))) := fun k => rfl
 refine Ev.congr hf ?_
 by_cases hm : (l.length : Int) > 40
 ·exact Ev.congr (fun k => if_pos (decide_eq_true hm)) (Ev.now _)
 ·refine Ev.congr (fun k => if_neg (fun h => hm (of_decide_eq_true h))) ?_
  have f1 : exact_Clean.f l = some (clnV l) := if_pos (by omega)
  have f2 : exact_Total.f l = some ((totV l).1.f0, (totV l).1.f1, (totV l).2) := if_pos (by omega)
  have f3 : exact_Has.f l t0 t1 = some (hasV l ⟨t0, t1⟩) := if_pos (by omega)
  rw [f1, f2, f3]
  simp only [Option.bind_some]
  have hn := clnV_len l
  refine Ev.bind (rclean_f (by omega)) (Ev.bind (rtotal_f (by omega)) (Ev.bind (rhas_f (by omega)) (Ev.bind (eqSpans_f _ (by omega)) ?_)))
  refine Ev.congr (fun k => if_pos rfl) (Ev.congr (fun k => if_pos rfl) (Ev.congr (fun k => if_pos (by simp)) (Ev.congr (fun k => if_pos rfl) (Ev.congr (fun k => if_pos (by simp)) (Ev.congr (fun k => if_pos rfl) (Ev.now _))))))
theorem walk_Cw (a : Option Addr) (len c : Nat) (l : List Sn) (t0 t1 : Int) (w : World) (h : Sps w a len c l) (_ : (Lit.int .i64 t0).wf = true) (_ : (Lit.int .i64 t1).wf = true) :
  Calls Tryz.prog 4 #[.slice a len c, .agg #[.int .i64 t0, .int .i64 t1]] w (fun e w' => e = .returned (.bool true) ∧ Below w.heap.size w w') := by
 obtain ⟨k, hk⟩ := (pure_Cw l t0 t1).rounds
 rw [← h.n]
 exact dioramalaw02_ExactCleans.calls k a c l t0 t1 true w h.c h.h hk
end Go.Proofs.YtekommcfpjonmaaGreat.Cw

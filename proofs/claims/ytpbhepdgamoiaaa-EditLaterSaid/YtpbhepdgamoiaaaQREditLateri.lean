/-
  Whether two lists show the same. What a normal list shows, and how long it is. Two lists of edits with their errors, compared. EditFaster: a list that is so many times as fast is as the reference says. EditClocks: a list by other clocks is as the reference says. What a list by other clocks and a faster list show. Two lists that show the same are seen to. What is left of a list between two ticks, as a plain value, and that the code tells it. The reference's sums of times, and times of ticks. EditLater: what is cut off a list is shown earlier by as much.
-/
import Derived.Test.YtpbhepdgamoiaaaQREditLatera
import Derived.Test.YtpbhepdgamoiaaaQREditLaterd
import Derived.Test.YtpbhepdgamoiaaaQREditLatere
import Derived.Test.YtpbhepdgamoiaaaQREditLaterf
import Derived.Test.YtpbhepdgamoiaaaQREditLaterg
import Derived.Test.YtpbhepdgamoiaaaQREditLaterc
import Derived.Test.YtpbhepdgamoiaaaQREditLaterh
namespace Go.Proofs.Ytpbhepdgamoiaaa.E
open Go.Proofs.Ytpbhepdgamoiaaa.Z Go.RowKit Go.Proofs.YtpbhepdgamoiaaaW.PrintWords Go.Proofs.YtpbhepdgamoiaaaW.PrintLast Go.Proofs.YtpbhepdgamoiaaaW.PrintMore
attribute [local go_sem] max2_int min2_int max_two min_two max_three min_three max_four min_four
set_option linter.unusedVariables false
set_option linter.unusedSimpArgs false
mutual
def dioramalaw10_EditLater.j0 : Nat → Int → Int → List (S77) → Bool → List (S77) → Int → Int → Int → Int → Option (Bool)
  | 0, _, _, _, _, _, _, _, _, _ => none
  | k + 1, x4, x5, x7, x50, x932000, x932001, x932002, x933000, x933001 => if x50 = true then ((dioramalaw10_awake.f k).bind fun t940 => (some t940)) else ((dioramaref02_From.f k x4 x932001).bind fun bt941 => ((dioramaref02_Add.f k x933000 x933001 bt941.1 bt941.2.1).bind fun bt945 => ((dioramaref02_From.f k x5 x932001).bind fun bt949 => (if bt941.2.2 = 0 then (if bt945.2.2 = 0 then (dioramalaw10_EditLater.j1 k x7 (bt949.2.2 != 0) x932000 x932001 x932002 x933000 x933001 bt945.1 bt945.2.1 bt949.1 bt949.2.1) else (dioramalaw10_EditLater.j1 k x7 true x932000 x932001 x932002 x933000 x933001 bt945.1 bt945.2.1 bt949.1 bt949.2.1)) else (dioramalaw10_EditLater.j1 k x7 true x932000 x932001 x932002 x933000 x933001 bt945.1 bt945.2.1 bt949.1 bt949.2.1)))))
def dioramalaw10_EditLater.j1 : Nat → List (S77) → Bool → List (S77) → Int → Int → Int → Int → Int → Int → Int → Int → Option (Bool)
  | 0, _, _, _, _, _, _, _, _, _, _, _ => none
  | k + 1, x7, x81, x932000, x932001, x932002, x933000, x933001, x949000, x949001, x953000, x953001 => if x81 = true then ((dioramalaw10_awake.f k).bind fun t953 => (some t953)) else ((dioramaref02_Cmp.f x949000 x949001 x953000 x953001).bind fun bt954 => (if x933000 < 0 then (dioramalaw10_EditLater.j2 k x7 true x932000 x932001 x932002 x933000 x933001 x949000 x949001) else (dioramalaw10_EditLater.j2 k x7 (decide (bt954.1 ≥ 0)) x932000 x932001 x932002 x933000 x933001 x949000 x949001)))
def dioramalaw10_EditLater.j2 : Nat → List (S77) → Bool → List (S77) → Int → Int → Int → Int → Int → Int → Option (Bool)
  | 0, _, _, _, _, _, _, _, _, _ => none
  | k + 1, x7, x95, x932000, x932001, x932002, x933000, x933001, x949000, x949001 => if x95 = true then ((edit_Media.f x7 x932001 x932002 x933000 x933001).bind fun bt956 => (if bt956.2.2.1 = true then (some false) else (if bt956.2.2.2 = 0 then ((dioramalaw10_awake.f k).bind fun t961 => (some t961)) else (some false)))) else ((dioramalaw10_shows.f x7 x932001 x932002 x933000 x933001 x932000 x932001 x932002 x949000 x949001).bind fun t962 => (if t962 = true then ((dioramalaw10_awake.f k).bind fun t963 => (some t963)) else (some false)))
end
def dioramalaw10_EditLater.f (k : Nat) (l0_0 : List (S77)) (a0_1 : Int) (a0_2 : Int) (a0_3 : Int) (a0_4 : Int) (a0_5 : Int) (a0_6 : Int) : Option (Bool) := (dioramalaw10_many.f l0_0).bind fun t933 => (if t933 = true then ((dioramalaw10_awake.f k).bind fun t934 => (some t934)) else ((edit_Cut.f k l0_0 a0_1 a0_2 a0_3 a0_4).bind fun bt935 => (if bt935.2 = 0 then ((dioramaref02_Valid.f a0_5 a0_6).bind fun t939 => (dioramalaw10_EditLater.j0 k a0_3 a0_4 bt935.1 (!t939) l0_0 a0_1 a0_2 a0_5 a0_6)) else (dioramalaw10_EditLater.j0 k a0_3 a0_4 bt935.1 true l0_0 a0_1 a0_2 a0_5 a0_6))))
set_option maxHeartbeats 8000000 in
set_option maxRecDepth 100000 in
theorem dioramalaw10_EditLater.calls (k : Nat) (A0_0 : Option Addr) (c0_0 : Nat) (l0_0 : List (S77)) (a0_1 : Int) (a0_2 : Int) (a0_3 : Int) (a0_4 : Int) (a0_5 : Int) (a0_6 : Int) (r : Bool) (w : World) (hr0_0 : Kd.C k77 w A0_0 l0_0.length l0_0) (hc0_0 : l0_0.length ≤ c0_0) (h : dioramalaw10_EditLater.f k l0_0 a0_1 a0_2 a0_3 a0_4 a0_5 a0_6 = some r) :
  Calls Try.prog 12 #[.agg #[.slice A0_0 l0_0.length c0_0, .int .i64 a0_1, .int .i64 a0_2, .int .i64 a0_3, .int .i64 a0_4, .int .i64 a0_5, .int .i64 a0_6]] w fun e w' => e = .returned (.bool r) ∧ Below w.heap.size w w' := by
 have hu53 := Try.underlying53; have hu24 := Try.underlying24; have hu37 := Try.underlying37; have HR0_0 := Aside0.mk hr0_0; have HC0_0 := Aside0.mk hc0_0; clear hr0_0 hc0_0; have HB := Aside0.mk (Below.refl w.heap.size w); have H : ((dioramalaw10_many.f l0_0).bind fun t933 => (if t933 = true then ((dioramalaw10_awake.f k).bind fun t934 => (some t934)) else ((edit_Cut.f k l0_0 a0_1 a0_2 a0_3 a0_4).bind fun bt935 => (if bt935.2 = 0 then ((dioramaref02_Valid.f a0_5 a0_6).bind fun t939 => (dioramalaw10_EditLater.j0 k a0_3 a0_4 bt935.1 (!t939) l0_0 a0_1 a0_2 a0_5 a0_6)) else (dioramalaw10_EditLater.j0 k a0_3 a0_4 bt935.1 true l0_0 a0_1 a0_2 a0_5 a0_6))))) = some r := h
 clear h; obtain ⟨t933, A2, H⟩ := ob H
 by_cases c3 : t933 = true
 ·subst c3; rw [if_pos rfl] at H; obtain ⟨t934, A4, H⟩ := ob H; obtain rfl := Option.some.inj H
  go_enter Try.func12, Try.ntmps12
  try go_wp2_with (first | ((with_reducible refine gate_dst (N := 1) rfl ?_); refine zB 1 53 #[.slice A0_0 l0_0.length c0_0, .int .i64 a0_1, .int .i64 a0_2, .int .i64 a0_3, .int .i64 a0_4, .int .i64 a0_5, .int .i64 a0_6] ?_; intro gb930 hg w5 hbox hb; have BK930 := Aside0.mk hbox; have GW930 := gz hg; have GE930 := gz hg; replace HB := bp hb; clear hb hbox hg))
  replace BK930 := Aside0.mk (blk_drew BK930.out); replace HB := Aside0.mk (below_drew1 HB.out); refine start_ (n := 14) (S := fun w' => w'.cell? ⟨gb930, 0, none⟩ = some (.slice A0_0 l0_0.length c0_0) ∧ w'.cell? ⟨gb930, 1, none⟩ = some (.int .i64 a0_1) ∧ w'.cell? ⟨gb930, 2, none⟩ = some (.int .i64 a0_2) ∧ w'.cell? ⟨gb930, 3, none⟩ = some (.int .i64 a0_3) ∧ w'.cell? ⟨gb930, 4, none⟩ = some (.int .i64 a0_4) ∧ w'.cell? ⟨gb930, 5, none⟩ = some (.int .i64 a0_5) ∧ w'.cell? ⟨gb930, 6, none⟩ = some (.int .i64 a0_6)) (ds := []) (bs 14 0) (by kernel_rfl) rfl rfl ⟨ct BK930 0, ct BK930 1, ct BK930 2, ct BK930 3, ct BK930 4, ct BK930 5, ct BK930 6⟩ (fun hHeld => ?_)
  generalize w5.drew = w6 at BK930 HB hHeld ⊢; refine zP 0 20 14 1 ?_; refine zP 2 22 14 5 ?_; refine zP 4 24 14 21 ?_; refine zP 6 26 14 85 ?_; refine zT 1 21 14 87 hHeld ?_; refine zT 3 23 14 95 hHeld ?_; refine zT 5 25 14 127 hHeld ?_; refine zT 7 27 14 255 hHeld ?_; refine join_ (σ := Nat × Nat) 4 (bs 14 1023) (fun s_ => [(3, .pointer (some ⟨s_.1, 0, none⟩)), (6, .pointer (some ⟨s_.2, 0, none⟩))]) (fun s_ w' => (w'.cell? ⟨gb930, 0, none⟩ = some (.slice A0_0 l0_0.length c0_0) ∧ w'.cell? ⟨gb930, 1, none⟩ = some (.int .i64 a0_1) ∧ w'.cell? ⟨gb930, 2, none⟩ = some (.int .i64 a0_2) ∧ w'.cell? ⟨gb930, 3, none⟩ = some (.int .i64 a0_3) ∧ w'.cell? ⟨gb930, 4, none⟩ = some (.int .i64 a0_4) ∧ w'.cell? ⟨gb930, 5, none⟩ = some (.int .i64 a0_5) ∧ w'.cell? ⟨gb930, 6, none⟩ = some (.int .i64 a0_6)) ∧ (w'.heap[gb930]? = some (.cells #[.slice A0_0 l0_0.length c0_0, .int .i64 a0_1, .int .i64 a0_2, .int .i64 a0_3, .int .i64 a0_4, .int .i64 a0_5, .int .i64 a0_6] 53 (0, 0))) ∧ (w'.heap[s_.1]? = some (.cells #[.slice none 0 0, .int .i64 0, .int .i64 0] 24 (0, 0))) ∧ (w'.heap[s_.2]? = some (.cells #[.int .i64 0, .int .i64 0] 37 (0, 0))) ∧ (w.heap.size ≤ s_.1) ∧ (w.heap.size ≤ s_.1) ∧ (gb930 ≠ s_.1) ∧ (s_.1 ≠ gb930) ∧ (s_.2 ≠ s_.1) ∧ (s_.1 ≠ s_.2) ∧ (w.heap.size ≤ s_.2) ∧ (w.heap.size ≤ s_.2) ∧ (gb930 ≠ s_.2) ∧ (s_.2 ≠ gb930) ∧ (Below w.heap.size w w')) ?_ ?_
  rotate_left
  ·intro hCont; refine two_ (i := 8) (j := 9) (Ni := some 3) (Nj := some 6) (bs 14 511) (bs 14 767) rfl rfl rfl rfl (by kernel_rfl) (by decide) (by decide) (fun K hK => ?_) (fun K hK => ?_)
   ·skip
    refine box_step ?hg (N := 3) ?hd (cs := #[.slice none 0 0, .int .i64 0, .int .i64 0]) (t := 24) ?hr ?_; (case hd => rfl); (case hg => rfl); (case hr => first | (go_simp; done) | (go_simp; rfl))
    intro gb931 hg w7 hbox hb; have BK931 := Aside0.mk hbox; have GW931 := gz hg; have GE931 := gz hg; replace HB := bp hb; have NB930_931 := Aside0.mk ((by rw [hg]; exact Nat.ne_of_lt (bl BK930) : gb930 ≠ gb931)); have NB931_930 := Aside0.mk ((by rw [hg]; exact Nat.ne_of_gt (bl BK930) : gb931 ≠ gb930)); replace BK930 := kb BK930 hb; clear hb hbox hg; refine hK.out _ _ ⟨ct BK930 0, ct BK930 1, ct BK930 2, ct BK930 3, ct BK930 4, ct BK930 5, ct BK930 6⟩ (fun hHeld => ?_); clear hK K; refine zM 3 ?_; refine zN 9 (some 6) 14 1023 (fun K hK => ?_); refine box_step ?hg (N := 6) ?hd (cs := #[.int .i64 0, .int .i64 0]) (t := 37) ?hr ?_; (case hd => rfl); (case hg => rfl); (case hr => first | (go_simp; done) | (go_simp; rfl))
    intro gb932 hg w8 hbox hb; have BK932 := Aside0.mk hbox; have GW932 := gz hg; have GE932 := gz hg; replace HB := bp hb; have NB930_932 := Aside0.mk ((by rw [hg]; exact Nat.ne_of_lt (bl BK930) : gb930 ≠ gb932)); have NB932_930 := Aside0.mk ((by rw [hg]; exact Nat.ne_of_gt (bl BK930) : gb932 ≠ gb930)); replace BK930 := kb BK930 hb; have NB931_932 := Aside0.mk ((by rw [hg]; exact Nat.ne_of_lt (bl BK931) : gb931 ≠ gb932)); have NB932_931 := Aside0.mk ((by rw [hg]; exact Nat.ne_of_gt (bl BK931) : gb932 ≠ gb931)); replace BK931 := kb BK931 hb; clear hb hbox hg; refine hK.out _ _ ⟨ct BK930 0, ct BK930 1, ct BK930 2, ct BK930 3, ct BK930 4, ct BK930 5, ct BK930 6⟩ (fun hHeld => ?_); clear hK K; refine zM 6 ?_
    exact norm_ (by simp only [putAll, Act.put, List.setIfInBounds_toArray, List.set_cons_zero, List.set_cons_succ]) (hCont (gb931, gb932) _ ⟨hHeld, kz, kz, kz, GW931.out, GE931.out, NB930_931.out, NB931_930.out, NB932_931.out, NB931_932.out, GW932.out, GE932.out, NB930_932.out, NB932_930.out, bz⟩)
   ·skip
    refine box_step ?hg (N := 6) ?hd (cs := #[.int .i64 0, .int .i64 0]) (t := 37) ?hr ?_; (case hd => rfl); (case hg => rfl); (case hr => first | (go_simp; done) | (go_simp; rfl))
    intro gb932 hg w7 hbox hb; have BK932 := Aside0.mk hbox; have GW932 := gz hg; have GE932 := gz hg; replace HB := bp hb; have NB930_932 := Aside0.mk ((by rw [hg]; exact Nat.ne_of_lt (bl BK930) : gb930 ≠ gb932)); have NB932_930 := Aside0.mk ((by rw [hg]; exact Nat.ne_of_gt (bl BK930) : gb932 ≠ gb930)); replace BK930 := kb BK930 hb; clear hb hbox hg; refine hK.out _ _ ⟨ct BK930 0, ct BK930 1, ct BK930 2, ct BK930 3, ct BK930 4, ct BK930 5, ct BK930 6⟩ (fun hHeld => ?_); clear hK K; refine zM 6 ?_; refine zN 8 (some 3) 14 1023 (fun K hK => ?_); refine box_step ?hg (N := 3) ?hd (cs := #[.slice none 0 0, .int .i64 0, .int .i64 0]) (t := 24) ?hr ?_; (case hd => rfl); (case hg => rfl); (case hr => first | (go_simp; done) | (go_simp; rfl))
    intro gb931 hg w8 hbox hb; have BK931 := Aside0.mk hbox; have GW931 := gz hg; have GE931 := gz hg; replace HB := bp hb; have NB930_931 := Aside0.mk ((by rw [hg]; exact Nat.ne_of_lt (bl BK930) : gb930 ≠ gb931)); have NB931_930 := Aside0.mk ((by rw [hg]; exact Nat.ne_of_gt (bl BK930) : gb931 ≠ gb930)); replace BK930 := kb BK930 hb; have NB932_931 := Aside0.mk ((by rw [hg]; exact Nat.ne_of_lt (bl BK932) : gb932 ≠ gb931)); have NB931_932 := Aside0.mk ((by rw [hg]; exact Nat.ne_of_gt (bl BK932) : gb931 ≠ gb932)); replace BK932 := kb BK932 hb; clear hb hbox hg; refine hK.out _ _ ⟨ct BK930 0, ct BK930 1, ct BK930 2, ct BK930 3, ct BK930 4, ct BK930 5, ct BK930 6⟩ (fun hHeld => ?_); clear hK K; refine zM 3 ?_
    exact norm_ (by simp only [putAll, Act.put, List.setIfInBounds_toArray, List.set_cons_zero, List.set_cons_succ]) (hCont (gb931, gb932) _ ⟨hHeld, kz, kz, kz, GW931.out, GE931.out, NB930_931.out, NB931_930.out, NB932_931.out, NB931_932.out, GW932.out, GE932.out, NB930_932.out, NB932_930.out, bz⟩)
  rintro ⟨gb931, gb932⟩ w9 ⟨hS_, h0_, h1_, h2_, h3_, h4_, h5_, h6_, h7_, h8_, h9_, h10_, h11_, h12_, h13_⟩; have n0_ : Aside0 (w9.heap[gb930]? = some (.cells #[.slice A0_0 l0_0.length c0_0, .int .i64 a0_1, .int .i64 a0_2, .int .i64 a0_3, .int .i64 a0_4, .int .i64 a0_5, .int .i64 a0_6] 53 (0, 0))) := ⟨h0_⟩; have n1_ : Aside0 (w9.heap[gb931]? = some (.cells #[.slice none 0 0, .int .i64 0, .int .i64 0] 24 (0, 0))) := ⟨h1_⟩; have n2_ : Aside0 (w9.heap[gb932]? = some (.cells #[.int .i64 0, .int .i64 0] 37 (0, 0))) := ⟨h2_⟩; have n3_ : Aside0 (w.heap.size ≤ gb931) := ⟨h3_⟩; have n4_ : Aside0 (w.heap.size ≤ gb931) := ⟨h4_⟩; have n5_ : Aside0 (gb930 ≠ gb931) := ⟨h5_⟩; have n6_ : Aside0 (gb931 ≠ gb930) := ⟨h6_⟩; have n7_ : Aside0 (gb932 ≠ gb931) := ⟨h7_⟩; have n8_ : Aside0 (gb931 ≠ gb932) := ⟨h8_⟩; have n9_ : Aside0 (w.heap.size ≤ gb932) := ⟨h9_⟩; have n10_ : Aside0 (w.heap.size ≤ gb932) := ⟨h10_⟩; have n11_ : Aside0 (gb930 ≠ gb932) := ⟨h11_⟩; have n12_ : Aside0 (gb932 ≠ gb930) := ⟨h12_⟩; have n13_ : Aside0 (Below w.heap.size w w9) := ⟨h13_⟩; clear BK930; clear HB; clear h0_ h1_ h2_ h3_ h4_ h5_ h6_ h7_ h8_ h9_ h10_ h11_ h12_ h13_; have BK930 := n0_; have BK931 := n1_; have BK932 := n2_; have GW931 := n3_; have GE931 := n4_; have NB930_931 := n5_; have NB931_930 := n6_; have NB932_931 := n7_; have NB931_932 := n8_; have GW932 := n9_; have GE932 := n10_; have NB930_932 := n11_; have NB932_930 := n12_; have HB := n13_; clear n0_ n1_ n2_ n3_ n4_ n5_ n6_ n7_ n8_ n9_ n10_ n11_ n12_ n13_; have hHeld : w9.cell? ⟨gb930, 0, none⟩ = some (.slice A0_0 l0_0.length c0_0) ∧ w9.cell? ⟨gb930, 1, none⟩ = some (.int .i64 a0_1) ∧ w9.cell? ⟨gb930, 2, none⟩ = some (.int .i64 a0_2) ∧ w9.cell? ⟨gb930, 3, none⟩ = some (.int .i64 a0_3) ∧ w9.cell? ⟨gb930, 4, none⟩ = some (.int .i64 a0_4) ∧ w9.cell? ⟨gb930, 5, none⟩ = some (.int .i64 a0_5) ∧ w9.cell? ⟨gb930, 6, none⟩ = some (.int .i64 a0_6) := hS_; refine norm_ (a' := ?_) ?_ ?_
  rotate_left
  ·simp only [putAll, Act.put, List.setIfInBounds_toArray, List.set_cons_zero, List.set_cons_succ]
   rfl
  refine zN 10 none 14 2047 (fun K hK => ?_); have hs10 : w9.cell? ⟨gb931, 0, none⟩ = some (.slice none 0 0) := ct BK931 0; have hfs10 := blk_frozen BK931.out 0; have hns10_0 := NB930_931.out; have hns10_2 := NB932_931.out; have hms10_0 := NB931_930.out; have hms10_2 := NB931_932.out; have hs11 : w9.cell? ⟨gb931, 1, none⟩ = some (.int .i64 0) := ct BK931 1; have hfs11 := blk_frozen BK931.out 1; have hns11_0 := NB930_931.out; have hns11_2 := NB932_931.out; have hms11_0 := NB931_930.out; have hms11_2 := NB931_932.out; have hs12 : w9.cell? ⟨gb931, 2, none⟩ = some (.int .i64 0) := ct BK931 2; have hfs12 := blk_frozen BK931.out 2; have hns12_0 := NB930_931.out; have hns12_2 := NB932_931.out; have hms12_0 := NB931_930.out; have hms12_2 := NB931_932.out; refine skip_ (w1 := ?_) (by rfl) rfl ?_ ?_
  rotate_left
  ·go_simp
   rfl
  refine hK.out _ _ ⟨((cell_far (p := ⟨gb931, _, none⟩) NB930_931.out _).trans (((cell_far (p := ⟨gb931, _, none⟩) NB930_931.out _).trans (((cell_far (p := ⟨gb931, _, none⟩) NB930_931.out _).trans (hHeld.1)))))), ((cell_far (p := ⟨gb931, _, none⟩) NB930_931.out _).trans (((cell_far (p := ⟨gb931, _, none⟩) NB930_931.out _).trans (((cell_far (p := ⟨gb931, _, none⟩) NB930_931.out _).trans (hHeld.2.1)))))), ((cell_far (p := ⟨gb931, _, none⟩) NB930_931.out _).trans (((cell_far (p := ⟨gb931, _, none⟩) NB930_931.out _).trans (((cell_far (p := ⟨gb931, _, none⟩) NB930_931.out _).trans (hHeld.2.2.1)))))), ((cell_far (p := ⟨gb931, _, none⟩) NB930_931.out _).trans (((cell_far (p := ⟨gb931, _, none⟩) NB930_931.out _).trans (((cell_far (p := ⟨gb931, _, none⟩) NB930_931.out _).trans (hHeld.2.2.2.1)))))), ((cell_far (p := ⟨gb931, _, none⟩) NB930_931.out _).trans (((cell_far (p := ⟨gb931, _, none⟩) NB930_931.out _).trans (((cell_far (p := ⟨gb931, _, none⟩) NB930_931.out _).trans (hHeld.2.2.2.2.1)))))), ((cell_far (p := ⟨gb931, _, none⟩) NB930_931.out _).trans (((cell_far (p := ⟨gb931, _, none⟩) NB930_931.out _).trans (((cell_far (p := ⟨gb931, _, none⟩) NB930_931.out _).trans (hHeld.2.2.2.2.2.1)))))), ((cell_far (p := ⟨gb931, _, none⟩) NB930_931.out _).trans (((cell_far (p := ⟨gb931, _, none⟩) NB930_931.out _).trans (((cell_far (p := ⟨gb931, _, none⟩) NB930_931.out _).trans (hHeld.2.2.2.2.2.2))))))⟩ (fun hHeld => ?_); clear hK K; refine zP 11 4 14 4095 ?_; refine zP 12 5 14 8191 ?_; refine zN 13 none 14 16383 (fun K hK => ?_); have hs13 : w9.cell? ⟨gb932, 0, none⟩ = some (.int .i64 0) := ct BK932 0; have hfs13 := blk_frozen BK932.out 0; have hns13_0 := NB930_932.out; have hns13_1 := NB931_932.out; have hms13_0 := NB932_930.out; have hms13_1 := NB932_931.out; have hs14 : w9.cell? ⟨gb932, 1, none⟩ = some (.int .i64 0) := ct BK932 1; have hfs14 := blk_frozen BK932.out 1; have hns14_0 := NB930_932.out; have hns14_1 := NB931_932.out; have hms14_0 := NB932_930.out; have hms14_1 := NB932_931.out; refine skip_ (w1 := ?_) (by rfl) rfl ?_ ?_
  rotate_left
  ·go_simp
   rfl
  refine hK.out _ _ ⟨((cell_far (p := ⟨gb932, _, none⟩) NB930_932.out _).trans (((cell_far (p := ⟨gb932, _, none⟩) NB930_932.out _).trans (hHeld.1)))), ((cell_far (p := ⟨gb932, _, none⟩) NB930_932.out _).trans (((cell_far (p := ⟨gb932, _, none⟩) NB930_932.out _).trans (hHeld.2.1)))), ((cell_far (p := ⟨gb932, _, none⟩) NB930_932.out _).trans (((cell_far (p := ⟨gb932, _, none⟩) NB930_932.out _).trans (hHeld.2.2.1)))), ((cell_far (p := ⟨gb932, _, none⟩) NB930_932.out _).trans (((cell_far (p := ⟨gb932, _, none⟩) NB930_932.out _).trans (hHeld.2.2.2.1)))), ((cell_far (p := ⟨gb932, _, none⟩) NB930_932.out _).trans (((cell_far (p := ⟨gb932, _, none⟩) NB930_932.out _).trans (hHeld.2.2.2.2.1)))), ((cell_far (p := ⟨gb932, _, none⟩) NB930_932.out _).trans (((cell_far (p := ⟨gb932, _, none⟩) NB930_932.out _).trans (hHeld.2.2.2.2.2.1)))), ((cell_far (p := ⟨gb932, _, none⟩) NB930_932.out _).trans (((cell_far (p := ⟨gb932, _, none⟩) NB930_932.out _).trans (hHeld.2.2.2.2.2.2))))⟩ (fun hHeld => ?_); clear hK K; refine done_ (by kernel_rfl) ?_; have hnb15 := NB931_930.out; have hnc15 := NB930_931.out; have hnb16 := NB931_932.out; have hnc16 := NB932_931.out; obtain ⟨hcz17_0, hcz17_1, hcz17_2, hfz17_0, hfz17_1, hfz17_2⟩ := xc3 BK931
  try go_wp2_with (first | ((with_reducible refine gate_callee (f := 19) rfl ?_); refine zC 30 Try.func19 #[.slice A0_0 l0_0.length c0_0] ?_; (with_reducible refine (dioramalaw10_many.calls _ _ l0_0 true _ ?side1 ?side2 A2.out).mono ?_); (case side1 => exact Kd.C_below HR0_0.out bz); (case side2 => exact HC0_0.out); rintro e w' ⟨rfl, ⟨nd, rfl⟩⟩; refine ⟨_, rfl, ?_⟩) | ((with_reducible refine gate_callee (f := 20) rfl ?_); refine zC 31 Try.func20 #[] ?_; (with_reducible refine (dioramalaw10_awake.calls k  t934 _ A4.out).mono ?_); rintro e w18 ⟨rfl, hb⟩; refine ⟨_, rfl, ?_⟩; replace BK930 := Aside0.mk (blk_below (g := gb930) (o := .cells #[.slice A0_0 l0_0.length c0_0, .int .i64 a0_1, .int .i64 a0_2, .int .i64 a0_3, .int .i64 a0_4, .int .i64 a0_5, .int .i64 a0_6] 53 (0, 0)) (by (with_reducible repeat (first | refine blk_drewN ?_ _ | refine blk_drew ?_ | refine blk_alloc ?_ _)); refine blk_far ?_ NB930_932.out _; (with_reducible repeat (first | refine blk_drewN ?_ _ | refine blk_drew ?_ | refine blk_alloc ?_ _)); refine blk_far ?_ NB930_932.out _; (with_reducible repeat (first | refine blk_drewN ?_ _ | refine blk_drew ?_ | refine blk_alloc ?_ _)); refine blk_far ?_ NB930_931.out _; (with_reducible repeat (first | refine blk_drewN ?_ _ | refine blk_drew ?_ | refine blk_alloc ?_ _)); refine blk_far ?_ NB930_931.out _; (with_reducible repeat (first | refine blk_drewN ?_ _ | refine blk_drew ?_ | refine blk_alloc ?_ _)); refine blk_far ?_ NB930_931.out _; (with_reducible repeat (first | refine blk_drewN ?_ _ | refine blk_drew ?_ | refine blk_alloc ?_ _)); exact BK930.out) hb); replace BK931 := Aside0.mk (blk_below (g := gb931) (o := .cells #[.slice A0_0 l0_0.length c0_0, .int .i64 a0_1, .int .i64 a0_2] 24 (0, 0)) (by (with_reducible repeat (first | refine blk_drewN ?_ _ | refine blk_drew ?_ | refine blk_alloc ?_ _)); refine blk_far ?_ NB931_932.out _; (with_reducible repeat (first | refine blk_drewN ?_ _ | refine blk_drew ?_ | refine blk_alloc ?_ _)); refine blk_far ?_ NB931_932.out _; (with_reducible repeat (first | refine blk_drewN ?_ _ | refine blk_drew ?_ | refine blk_alloc ?_ _)); refine blk_put (cs := #[.slice A0_0 l0_0.length c0_0, .int .i64 a0_1, .int .i64 0]) ?_ 2 _ rfl; (with_reducible repeat (first | refine blk_drewN ?_ _ | refine blk_drew ?_ | refine blk_alloc ?_ _)); refine blk_put (cs := #[.slice A0_0 l0_0.length c0_0, .int .i64 0, .int .i64 0]) ?_ 1 _ rfl; (with_reducible repeat (first | refine blk_drewN ?_ _ | refine blk_drew ?_ | refine blk_alloc ?_ _)); refine blk_put (cs := #[.slice none 0 0, .int .i64 0, .int .i64 0]) ?_ 0 _ rfl; (with_reducible repeat (first | refine blk_drewN ?_ _ | refine blk_drew ?_ | refine blk_alloc ?_ _)); exact BK931.out) hb); replace BK932 := Aside0.mk (blk_below (g := gb932) (o := .cells #[.int .i64 a0_5, .int .i64 a0_6] 37 (0, 0)) (by (with_reducible repeat (first | refine blk_drewN ?_ _ | refine blk_drew ?_ | refine blk_alloc ?_ _)); refine blk_put (cs := #[.int .i64 a0_5, .int .i64 0]) ?_ 1 _ rfl; (with_reducible repeat (first | refine blk_drewN ?_ _ | refine blk_drew ?_ | refine blk_alloc ?_ _)); refine blk_put (cs := #[.int .i64 0, .int .i64 0]) ?_ 0 _ rfl; (with_reducible repeat (first | refine blk_drewN ?_ _ | refine blk_drew ?_ | refine blk_alloc ?_ _)); refine blk_far ?_ NB932_931.out _; (with_reducible repeat (first | refine blk_drewN ?_ _ | refine blk_drew ?_ | refine blk_alloc ?_ _)); refine blk_far ?_ NB932_931.out _; (with_reducible repeat (first | refine blk_drewN ?_ _ | refine blk_drew ?_ | refine blk_alloc ?_ _)); refine blk_far ?_ NB932_931.out _; (with_reducible repeat (first | refine blk_drewN ?_ _ | refine blk_drew ?_ | refine blk_alloc ?_ _)); exact BK932.out) hb); replace HB := bp hb; clear hb))
  go_ret
  exact ⟨ez, bz⟩
 ·obtain rfl := bf c3; rw [if_neg (show ¬ (false = true) by decide)] at H; obtain ⟨⟨t935, t936⟩, A19, H⟩ := ob H
  (try dsimp only at H)
  have HC20 := Aside0.mk H; clear H
  go_enter Try.func12, Try.ntmps12
  try go_wp2_with (first | ((with_reducible refine gate_dst (N := 1) rfl ?_); refine zB 1 53 #[.slice A0_0 l0_0.length c0_0, .int .i64 a0_1, .int .i64 a0_2, .int .i64 a0_3, .int .i64 a0_4, .int .i64 a0_5, .int .i64 a0_6] ?_; intro gb930 hg w21 hbox hb; have BK930 := Aside0.mk hbox; have GW930 := gz hg; have GE930 := gz hg; replace HB := bp hb; clear hb hbox hg))
  replace BK930 := Aside0.mk (blk_drew BK930.out); replace HB := Aside0.mk (below_drew1 HB.out); refine start_ (n := 14) (S := fun w' => w'.cell? ⟨gb930, 0, none⟩ = some (.slice A0_0 l0_0.length c0_0) ∧ w'.cell? ⟨gb930, 1, none⟩ = some (.int .i64 a0_1) ∧ w'.cell? ⟨gb930, 2, none⟩ = some (.int .i64 a0_2) ∧ w'.cell? ⟨gb930, 3, none⟩ = some (.int .i64 a0_3) ∧ w'.cell? ⟨gb930, 4, none⟩ = some (.int .i64 a0_4) ∧ w'.cell? ⟨gb930, 5, none⟩ = some (.int .i64 a0_5) ∧ w'.cell? ⟨gb930, 6, none⟩ = some (.int .i64 a0_6)) (ds := []) (bs 14 0) (by kernel_rfl) rfl rfl ⟨ct BK930 0, ct BK930 1, ct BK930 2, ct BK930 3, ct BK930 4, ct BK930 5, ct BK930 6⟩ (fun hHeld => ?_)
  generalize w21.drew = w22 at BK930 HB hHeld ⊢; refine zP 0 20 14 1 ?_; refine zP 2 22 14 5 ?_; refine zP 4 24 14 21 ?_; refine zP 6 26 14 85 ?_; refine zT 1 21 14 87 hHeld ?_; refine zT 3 23 14 95 hHeld ?_; refine zT 5 25 14 127 hHeld ?_; refine zT 7 27 14 255 hHeld ?_; refine join_ (σ := Nat × Nat) 4 (bs 14 1023) (fun s_ => [(3, .pointer (some ⟨s_.1, 0, none⟩)), (6, .pointer (some ⟨s_.2, 0, none⟩))]) (fun s_ w' => (w'.cell? ⟨gb930, 0, none⟩ = some (.slice A0_0 l0_0.length c0_0) ∧ w'.cell? ⟨gb930, 1, none⟩ = some (.int .i64 a0_1) ∧ w'.cell? ⟨gb930, 2, none⟩ = some (.int .i64 a0_2) ∧ w'.cell? ⟨gb930, 3, none⟩ = some (.int .i64 a0_3) ∧ w'.cell? ⟨gb930, 4, none⟩ = some (.int .i64 a0_4) ∧ w'.cell? ⟨gb930, 5, none⟩ = some (.int .i64 a0_5) ∧ w'.cell? ⟨gb930, 6, none⟩ = some (.int .i64 a0_6)) ∧ (w'.heap[gb930]? = some (.cells #[.slice A0_0 l0_0.length c0_0, .int .i64 a0_1, .int .i64 a0_2, .int .i64 a0_3, .int .i64 a0_4, .int .i64 a0_5, .int .i64 a0_6] 53 (0, 0))) ∧ (w'.heap[s_.1]? = some (.cells #[.slice none 0 0, .int .i64 0, .int .i64 0] 24 (0, 0))) ∧ (w'.heap[s_.2]? = some (.cells #[.int .i64 0, .int .i64 0] 37 (0, 0))) ∧ (w.heap.size ≤ s_.1) ∧ (w.heap.size ≤ s_.1) ∧ (gb930 ≠ s_.1) ∧ (s_.1 ≠ gb930) ∧ (s_.2 ≠ s_.1) ∧ (s_.1 ≠ s_.2) ∧ (w.heap.size ≤ s_.2) ∧ (w.heap.size ≤ s_.2) ∧ (gb930 ≠ s_.2) ∧ (s_.2 ≠ gb930) ∧ (Below w.heap.size w w')) ?_ ?_
  rotate_left
  ·intro hCont; refine two_ (i := 8) (j := 9) (Ni := some 3) (Nj := some 6) (bs 14 511) (bs 14 767) rfl rfl rfl rfl (by kernel_rfl) (by decide) (by decide) (fun K hK => ?_) (fun K hK => ?_)
   ·skip
    refine box_step ?hg (N := 3) ?hd (cs := #[.slice none 0 0, .int .i64 0, .int .i64 0]) (t := 24) ?hr ?_; (case hd => rfl); (case hg => rfl); (case hr => first | (go_simp; done) | (go_simp; rfl))
    intro gb931 hg w23 hbox hb; have BK931 := Aside0.mk hbox; have GW931 := gz hg; have GE931 := gz hg; replace HB := bp hb; have NB930_931 := Aside0.mk ((by rw [hg]; exact Nat.ne_of_lt (bl BK930) : gb930 ≠ gb931)); have NB931_930 := Aside0.mk ((by rw [hg]; exact Nat.ne_of_gt (bl BK930) : gb931 ≠ gb930)); replace BK930 := kb BK930 hb; clear hb hbox hg; refine hK.out _ _ ⟨ct BK930 0, ct BK930 1, ct BK930 2, ct BK930 3, ct BK930 4, ct BK930 5, ct BK930 6⟩ (fun hHeld => ?_); clear hK K; refine zM 3 ?_; refine zN 9 (some 6) 14 1023 (fun K hK => ?_); refine box_step ?hg (N := 6) ?hd (cs := #[.int .i64 0, .int .i64 0]) (t := 37) ?hr ?_; (case hd => rfl); (case hg => rfl); (case hr => first | (go_simp; done) | (go_simp; rfl))
    intro gb932 hg w24 hbox hb; have BK932 := Aside0.mk hbox; have GW932 := gz hg; have GE932 := gz hg; replace HB := bp hb; have NB930_932 := Aside0.mk ((by rw [hg]; exact Nat.ne_of_lt (bl BK930) : gb930 ≠ gb932)); have NB932_930 := Aside0.mk ((by rw [hg]; exact Nat.ne_of_gt (bl BK930) : gb932 ≠ gb930)); replace BK930 := kb BK930 hb; have NB931_932 := Aside0.mk ((by rw [hg]; exact Nat.ne_of_lt (bl BK931) : gb931 ≠ gb932)); have NB932_931 := Aside0.mk ((by rw [hg]; exact Nat.ne_of_gt (bl BK931) : gb932 ≠ gb931)); replace BK931 := kb BK931 hb; clear hb hbox hg; refine hK.out _ _ ⟨ct BK930 0, ct BK930 1, ct BK930 2, ct BK930 3, ct BK930 4, ct BK930 5, ct BK930 6⟩ (fun hHeld => ?_); clear hK K; refine zM 6 ?_
    exact norm_ (by simp only [putAll, Act.put, List.setIfInBounds_toArray, List.set_cons_zero, List.set_cons_succ]) (hCont (gb931, gb932) _ ⟨hHeld, kz, kz, kz, GW931.out, GE931.out, NB930_931.out, NB931_930.out, NB932_931.out, NB931_932.out, GW932.out, GE932.out, NB930_932.out, NB932_930.out, bz⟩)
   ·skip
    refine box_step ?hg (N := 6) ?hd (cs := #[.int .i64 0, .int .i64 0]) (t := 37) ?hr ?_; (case hd => rfl); (case hg => rfl); (case hr => first | (go_simp; done) | (go_simp; rfl))
    intro gb932 hg w23 hbox hb; have BK932 := Aside0.mk hbox; have GW932 := gz hg; have GE932 := gz hg; replace HB := bp hb; have NB930_932 := Aside0.mk ((by rw [hg]; exact Nat.ne_of_lt (bl BK930) : gb930 ≠ gb932)); have NB932_930 := Aside0.mk ((by rw [hg]; exact Nat.ne_of_gt (bl BK930) : gb932 ≠ gb930)); replace BK930 := kb BK930 hb; clear hb hbox hg; refine hK.out _ _ ⟨ct BK930 0, ct BK930 1, ct BK930 2, ct BK930 3, ct BK930 4, ct BK930 5, ct BK930 6⟩ (fun hHeld => ?_); clear hK K; refine zM 6 ?_; refine zN 8 (some 3) 14 1023 (fun K hK => ?_); refine box_step ?hg (N := 3) ?hd (cs := #[.slice none 0 0, .int .i64 0, .int .i64 0]) (t := 24) ?hr ?_; (case hd => rfl); (case hg => rfl); (case hr => first | (go_simp; done) | (go_simp; rfl))
    intro gb931 hg w24 hbox hb; have BK931 := Aside0.mk hbox; have GW931 := gz hg; have GE931 := gz hg; replace HB := bp hb; have NB930_931 := Aside0.mk ((by rw [hg]; exact Nat.ne_of_lt (bl BK930) : gb930 ≠ gb931)); have NB931_930 := Aside0.mk ((by rw [hg]; exact Nat.ne_of_gt (bl BK930) : gb931 ≠ gb930)); replace BK930 := kb BK930 hb; have NB932_931 := Aside0.mk ((by rw [hg]; exact Nat.ne_of_lt (bl BK932) : gb932 ≠ gb931)); have NB931_932 := Aside0.mk ((by rw [hg]; exact Nat.ne_of_gt (bl BK932) : gb931 ≠ gb932)); replace BK932 := kb BK932 hb; clear hb hbox hg; refine hK.out _ _ ⟨ct BK930 0, ct BK930 1, ct BK930 2, ct BK930 3, ct BK930 4, ct BK930 5, ct BK930 6⟩ (fun hHeld => ?_); clear hK K; refine zM 3 ?_
    exact norm_ (by simp only [putAll, Act.put, List.setIfInBounds_toArray, List.set_cons_zero, List.set_cons_succ]) (hCont (gb931, gb932) _ ⟨hHeld, kz, kz, kz, GW931.out, GE931.out, NB930_931.out, NB931_930.out, NB932_931.out, NB931_932.out, GW932.out, GE932.out, NB930_932.out, NB932_930.out, bz⟩)
  rintro ⟨gb931, gb932⟩ w25 ⟨hS_, h0_, h1_, h2_, h3_, h4_, h5_, h6_, h7_, h8_, h9_, h10_, h11_, h12_, h13_⟩; have n0_ : Aside0 (w25.heap[gb930]? = some (.cells #[.slice A0_0 l0_0.length c0_0, .int .i64 a0_1, .int .i64 a0_2, .int .i64 a0_3, .int .i64 a0_4, .int .i64 a0_5, .int .i64 a0_6] 53 (0, 0))) := ⟨h0_⟩; have n1_ : Aside0 (w25.heap[gb931]? = some (.cells #[.slice none 0 0, .int .i64 0, .int .i64 0] 24 (0, 0))) := ⟨h1_⟩; have n2_ : Aside0 (w25.heap[gb932]? = some (.cells #[.int .i64 0, .int .i64 0] 37 (0, 0))) := ⟨h2_⟩; have n3_ : Aside0 (w.heap.size ≤ gb931) := ⟨h3_⟩; have n4_ : Aside0 (w.heap.size ≤ gb931) := ⟨h4_⟩; have n5_ : Aside0 (gb930 ≠ gb931) := ⟨h5_⟩; have n6_ : Aside0 (gb931 ≠ gb930) := ⟨h6_⟩; have n7_ : Aside0 (gb932 ≠ gb931) := ⟨h7_⟩; have n8_ : Aside0 (gb931 ≠ gb932) := ⟨h8_⟩; have n9_ : Aside0 (w.heap.size ≤ gb932) := ⟨h9_⟩; have n10_ : Aside0 (w.heap.size ≤ gb932) := ⟨h10_⟩; have n11_ : Aside0 (gb930 ≠ gb932) := ⟨h11_⟩; have n12_ : Aside0 (gb932 ≠ gb930) := ⟨h12_⟩; have n13_ : Aside0 (Below w.heap.size w w25) := ⟨h13_⟩; clear BK930; clear HB; clear h0_ h1_ h2_ h3_ h4_ h5_ h6_ h7_ h8_ h9_ h10_ h11_ h12_ h13_; have BK930 := n0_; have BK931 := n1_; have BK932 := n2_; have GW931 := n3_; have GE931 := n4_; have NB930_931 := n5_; have NB931_930 := n6_; have NB932_931 := n7_; have NB931_932 := n8_; have GW932 := n9_; have GE932 := n10_; have NB930_932 := n11_; have NB932_930 := n12_; have HB := n13_; clear n0_ n1_ n2_ n3_ n4_ n5_ n6_ n7_ n8_ n9_ n10_ n11_ n12_ n13_; have hHeld : w25.cell? ⟨gb930, 0, none⟩ = some (.slice A0_0 l0_0.length c0_0) ∧ w25.cell? ⟨gb930, 1, none⟩ = some (.int .i64 a0_1) ∧ w25.cell? ⟨gb930, 2, none⟩ = some (.int .i64 a0_2) ∧ w25.cell? ⟨gb930, 3, none⟩ = some (.int .i64 a0_3) ∧ w25.cell? ⟨gb930, 4, none⟩ = some (.int .i64 a0_4) ∧ w25.cell? ⟨gb930, 5, none⟩ = some (.int .i64 a0_5) ∧ w25.cell? ⟨gb930, 6, none⟩ = some (.int .i64 a0_6) := hS_; refine norm_ (a' := ?_) ?_ ?_
  rotate_left
  ·simp only [putAll, Act.put, List.setIfInBounds_toArray, List.set_cons_zero, List.set_cons_succ]
   rfl
  refine zN 10 none 14 2047 (fun K hK => ?_); have hs26 : w25.cell? ⟨gb931, 0, none⟩ = some (.slice none 0 0) := ct BK931 0; have hfs26 := blk_frozen BK931.out 0; have hns26_0 := NB930_931.out; have hns26_2 := NB932_931.out; have hms26_0 := NB931_930.out; have hms26_2 := NB931_932.out; have hs27 : w25.cell? ⟨gb931, 1, none⟩ = some (.int .i64 0) := ct BK931 1; have hfs27 := blk_frozen BK931.out 1; have hns27_0 := NB930_931.out; have hns27_2 := NB932_931.out; have hms27_0 := NB931_930.out; have hms27_2 := NB931_932.out; have hs28 : w25.cell? ⟨gb931, 2, none⟩ = some (.int .i64 0) := ct BK931 2; have hfs28 := blk_frozen BK931.out 2; have hns28_0 := NB930_931.out; have hns28_2 := NB932_931.out; have hms28_0 := NB931_930.out; have hms28_2 := NB931_932.out; refine skip_ (w1 := ?_) (by rfl) rfl ?_ ?_
  rotate_left
  ·go_simp
   rfl
  refine hK.out _ _ ⟨((cell_far (p := ⟨gb931, _, none⟩) NB930_931.out _).trans (((cell_far (p := ⟨gb931, _, none⟩) NB930_931.out _).trans (((cell_far (p := ⟨gb931, _, none⟩) NB930_931.out _).trans (hHeld.1)))))), ((cell_far (p := ⟨gb931, _, none⟩) NB930_931.out _).trans (((cell_far (p := ⟨gb931, _, none⟩) NB930_931.out _).trans (((cell_far (p := ⟨gb931, _, none⟩) NB930_931.out _).trans (hHeld.2.1)))))), ((cell_far (p := ⟨gb931, _, none⟩) NB930_931.out _).trans (((cell_far (p := ⟨gb931, _, none⟩) NB930_931.out _).trans (((cell_far (p := ⟨gb931, _, none⟩) NB930_931.out _).trans (hHeld.2.2.1)))))), ((cell_far (p := ⟨gb931, _, none⟩) NB930_931.out _).trans (((cell_far (p := ⟨gb931, _, none⟩) NB930_931.out _).trans (((cell_far (p := ⟨gb931, _, none⟩) NB930_931.out _).trans (hHeld.2.2.2.1)))))), ((cell_far (p := ⟨gb931, _, none⟩) NB930_931.out _).trans (((cell_far (p := ⟨gb931, _, none⟩) NB930_931.out _).trans (((cell_far (p := ⟨gb931, _, none⟩) NB930_931.out _).trans (hHeld.2.2.2.2.1)))))), ((cell_far (p := ⟨gb931, _, none⟩) NB930_931.out _).trans (((cell_far (p := ⟨gb931, _, none⟩) NB930_931.out _).trans (((cell_far (p := ⟨gb931, _, none⟩) NB930_931.out _).trans (hHeld.2.2.2.2.2.1)))))), ((cell_far (p := ⟨gb931, _, none⟩) NB930_931.out _).trans (((cell_far (p := ⟨gb931, _, none⟩) NB930_931.out _).trans (((cell_far (p := ⟨gb931, _, none⟩) NB930_931.out _).trans (hHeld.2.2.2.2.2.2))))))⟩ (fun hHeld => ?_); clear hK K; refine zP 11 4 14 4095 ?_; refine zP 12 5 14 8191 ?_; refine zN 13 none 14 16383 (fun K hK => ?_); have hs29 : w25.cell? ⟨gb932, 0, none⟩ = some (.int .i64 0) := ct BK932 0; have hfs29 := blk_frozen BK932.out 0; have hns29_0 := NB930_932.out; have hns29_1 := NB931_932.out; have hms29_0 := NB932_930.out; have hms29_1 := NB932_931.out; have hs30 : w25.cell? ⟨gb932, 1, none⟩ = some (.int .i64 0) := ct BK932 1; have hfs30 := blk_frozen BK932.out 1; have hns30_0 := NB930_932.out; have hns30_1 := NB931_932.out; have hms30_0 := NB932_930.out; have hms30_1 := NB932_931.out; refine skip_ (w1 := ?_) (by rfl) rfl ?_ ?_
  rotate_left
  ·go_simp
   rfl
  refine hK.out _ _ ⟨((cell_far (p := ⟨gb932, _, none⟩) NB930_932.out _).trans (((cell_far (p := ⟨gb932, _, none⟩) NB930_932.out _).trans (hHeld.1)))), ((cell_far (p := ⟨gb932, _, none⟩) NB930_932.out _).trans (((cell_far (p := ⟨gb932, _, none⟩) NB930_932.out _).trans (hHeld.2.1)))), ((cell_far (p := ⟨gb932, _, none⟩) NB930_932.out _).trans (((cell_far (p := ⟨gb932, _, none⟩) NB930_932.out _).trans (hHeld.2.2.1)))), ((cell_far (p := ⟨gb932, _, none⟩) NB930_932.out _).trans (((cell_far (p := ⟨gb932, _, none⟩) NB930_932.out _).trans (hHeld.2.2.2.1)))), ((cell_far (p := ⟨gb932, _, none⟩) NB930_932.out _).trans (((cell_far (p := ⟨gb932, _, none⟩) NB930_932.out _).trans (hHeld.2.2.2.2.1)))), ((cell_far (p := ⟨gb932, _, none⟩) NB930_932.out _).trans (((cell_far (p := ⟨gb932, _, none⟩) NB930_932.out _).trans (hHeld.2.2.2.2.2.1)))), ((cell_far (p := ⟨gb932, _, none⟩) NB930_932.out _).trans (((cell_far (p := ⟨gb932, _, none⟩) NB930_932.out _).trans (hHeld.2.2.2.2.2.2))))⟩ (fun hHeld => ?_); clear hK K; refine done_ (by kernel_rfl) ?_; have hnb31 := NB931_930.out; have hnc31 := NB930_931.out; have hnb32 := NB931_932.out; have hnc32 := NB932_931.out; obtain ⟨hcz33_0, hcz33_1, hcz33_2, hfz33_0, hfz33_1, hfz33_2⟩ := xc3 BK931
  go_upto_region 5 with (first | ((with_reducible refine gate_callee (f := 19) rfl ?_); refine zC 30 Try.func19 #[.slice A0_0 l0_0.length c0_0] ?_; (with_reducible refine (dioramalaw10_many.calls _ _ l0_0 false _ ?side1 ?side2 A2.out).mono ?_); (case side1 => exact Kd.C_below HR0_0.out bz); (case side2 => exact HC0_0.out); rintro e w' ⟨rfl, ⟨nd, rfl⟩⟩; refine ⟨_, rfl, ?_⟩) | ((with_reducible refine gate_callee (f := 38) rfl ?_); refine zC 41 Try.func38 #[.slice A0_0 l0_0.length c0_0, .int .i64 a0_1, .int .i64 a0_2, .int .i64 a0_3, .int .i64 a0_4] ?_; (with_reducible refine (edit_Cut.calls k _ _ l0_0 a0_1 a0_2 a0_3 a0_4 t935 t936 _ ?side1 ?side2 A19.out).mono ?_); (case side1 => exact Kd.C_below HR0_0.out bz); (case side2 => exact HC0_0.out); rintro e w34 ⟨v937, rfl, ho0, hb⟩; refine ⟨_, rfl, ?_⟩; have HO938 := Aside0.mk (Kd.R_lower ho0 sz); replace BK930 := Aside0.mk (blk_below (g := gb930) (o := .cells #[.slice A0_0 l0_0.length c0_0, .int .i64 a0_1, .int .i64 a0_2, .int .i64 a0_3, .int .i64 a0_4, .int .i64 a0_5, .int .i64 a0_6] 53 (0, 0)) (by (with_reducible repeat (first | refine blk_drewN ?_ _ | refine blk_drew ?_ | refine blk_alloc ?_ _)); refine blk_far ?_ NB930_932.out _; (with_reducible repeat (first | refine blk_drewN ?_ _ | refine blk_drew ?_ | refine blk_alloc ?_ _)); refine blk_far ?_ NB930_932.out _; (with_reducible repeat (first | refine blk_drewN ?_ _ | refine blk_drew ?_ | refine blk_alloc ?_ _)); refine blk_far ?_ NB930_931.out _; (with_reducible repeat (first | refine blk_drewN ?_ _ | refine blk_drew ?_ | refine blk_alloc ?_ _)); refine blk_far ?_ NB930_931.out _; (with_reducible repeat (first | refine blk_drewN ?_ _ | refine blk_drew ?_ | refine blk_alloc ?_ _)); refine blk_far ?_ NB930_931.out _; (with_reducible repeat (first | refine blk_drewN ?_ _ | refine blk_drew ?_ | refine blk_alloc ?_ _)); exact BK930.out) hb); replace BK931 := Aside0.mk (blk_below (g := gb931) (o := .cells #[.slice A0_0 l0_0.length c0_0, .int .i64 a0_1, .int .i64 a0_2] 24 (0, 0)) (by (with_reducible repeat (first | refine blk_drewN ?_ _ | refine blk_drew ?_ | refine blk_alloc ?_ _)); refine blk_far ?_ NB931_932.out _; (with_reducible repeat (first | refine blk_drewN ?_ _ | refine blk_drew ?_ | refine blk_alloc ?_ _)); refine blk_far ?_ NB931_932.out _; (with_reducible repeat (first | refine blk_drewN ?_ _ | refine blk_drew ?_ | refine blk_alloc ?_ _)); refine blk_put (cs := #[.slice A0_0 l0_0.length c0_0, .int .i64 a0_1, .int .i64 0]) ?_ 2 _ rfl; (with_reducible repeat (first | refine blk_drewN ?_ _ | refine blk_drew ?_ | refine blk_alloc ?_ _)); refine blk_put (cs := #[.slice A0_0 l0_0.length c0_0, .int .i64 0, .int .i64 0]) ?_ 1 _ rfl; (with_reducible repeat (first | refine blk_drewN ?_ _ | refine blk_drew ?_ | refine blk_alloc ?_ _)); refine blk_put (cs := #[.slice none 0 0, .int .i64 0, .int .i64 0]) ?_ 0 _ rfl; (with_reducible repeat (first | refine blk_drewN ?_ _ | refine blk_drew ?_ | refine blk_alloc ?_ _)); exact BK931.out) hb); replace BK932 := Aside0.mk (blk_below (g := gb932) (o := .cells #[.int .i64 a0_5, .int .i64 a0_6] 37 (0, 0)) (by (with_reducible repeat (first | refine blk_drewN ?_ _ | refine blk_drew ?_ | refine blk_alloc ?_ _)); refine blk_put (cs := #[.int .i64 a0_5, .int .i64 0]) ?_ 1 _ rfl; (with_reducible repeat (first | refine blk_drewN ?_ _ | refine blk_drew ?_ | refine blk_alloc ?_ _)); refine blk_put (cs := #[.int .i64 0, .int .i64 0]) ?_ 0 _ rfl; (with_reducible repeat (first | refine blk_drewN ?_ _ | refine blk_drew ?_ | refine blk_alloc ?_ _)); refine blk_far ?_ NB932_931.out _; (with_reducible repeat (first | refine blk_drewN ?_ _ | refine blk_drew ?_ | refine blk_alloc ?_ _)); refine blk_far ?_ NB932_931.out _; (with_reducible repeat (first | refine blk_drewN ?_ _ | refine blk_drew ?_ | refine blk_alloc ?_ _)); refine blk_far ?_ NB932_931.out _; (with_reducible repeat (first | refine blk_drewN ?_ _ | refine blk_drew ?_ | refine blk_alloc ?_ _)); exact BK932.out) hb); replace HB := bp hb; clear hb ho0))
  (try simp only [Act.put, List.setIfInBounds_toArray, List.set_cons_zero, List.set_cons_succ])
  go_cut [50] (fun v50 wc => ∃ (kq : Nat) (x50_19 : Bool), v50 = .bool x50_19 ∧ Aside0 (dioramalaw10_EditLater.j0 kq a0_3 a0_4 t935 x50_19 l0_0 a0_1 a0_2 a0_5 a0_6 = some r) ∧ Aside0 (kq ≤ k) ∧ Aside0 (Kd.R k77 77 wc w.heap.size (fun _ => True) v937 t935) ∧ Aside0 (wc.heap[gb930]? = some (.cells #[(.slice A0_0 l0_0.length c0_0), .int .i64 a0_1, .int .i64 a0_2, .int .i64 a0_3, .int .i64 a0_4, .int .i64 a0_5, .int .i64 a0_6] 53 (0, 0))) ∧ Aside0 (wc.heap[gb931]? = some (.cells #[(.slice A0_0 l0_0.length c0_0), .int .i64 a0_1, .int .i64 a0_2] 24 (0, 0))) ∧ Aside0 (wc.heap[gb932]? = some (.cells #[.int .i64 a0_5, .int .i64 a0_6] 37 (0, 0))) ∧ Aside0 (Below w.heap.size w wc))
  case first =>
   have H := HC20.out; clear HC20
   by_cases c35 : t936 = 0
   ·rw [if_pos c35] at H; have c35b0 : (t936 == 0) = true := beq_iff_eq.mpr c35; have c35b1 : (t936 != 0) = false := bne_eq_false_iff_eq.mpr c35; clear c35
    (first | rw [c35b0] | (simp only [i64_w, i32_w]; rw [c35b0]) | skip)
    obtain ⟨t939, A36, H⟩ := ob H; have H' := Aside0.mk H; clear H; have hnb37 := NB932_930.out; have hnc37 := NB930_932.out; have hnb38 := NB932_931.out; have hnc38 := NB931_932.out; obtain ⟨hcz39_0, hcz39_1, hfz39_0, hfz39_1⟩ := xc2 BK932
    go_wp2_with (first | (go_at_call 35; (with_reducible refine (dioramaref02_Valid.calls a0_5 a0_6 t939 _ A36.out).mono ?_); rintro e w40 ⟨rfl, hb⟩; replace HO938 := Aside0.mk (Kd.R_below (rz HO938) hb); replace BK930 := kb BK930 hb; replace BK931 := kb BK931 hb; replace BK932 := kb BK932 hb; replace HB := bp hb; clear hb))
    go_meet
    case rel => exact ⟨_, (!t939), jz, H', ⟨by first | omega | exact Nat.le_refl _⟩, ⟨rz HO938⟩, ⟨kz⟩, ⟨kz⟩, ⟨kz⟩, ⟨bz⟩⟩
   ·rw [if_neg c35] at H; have c35b0 : (t936 == 0) = false := beq_eq_false_iff_ne.mpr c35; have c35b1 : (t936 != 0) = true := bne_iff_ne.mpr c35
    (first | rw [c35b0] | (simp only [i64_w, i32_w]; rw [c35b0]) | skip)
    have H' := Aside0.mk H; clear H
    go_wp2
    go_meet
    case rel => exact ⟨_, (true), jz, H', ⟨by first | omega | exact Nat.le_refl _⟩, ⟨rz HO938⟩, ⟨kz⟩, ⟨kz⟩, ⟨kz⟩, ⟨bz⟩⟩
  case rest =>
   clear HC20
   try clear c1
   try clear c2
   try clear p2
   try clear c3
   try clear c12
   try clear c15
   try clear c16
   try clear c19
   try clear c20
   try clear c31
   try clear c32
   try clear c35
   try clear c35b0
   try clear c35b1
   try clear c37
   try clear c38
   try clear hcz17_0
   try clear hcz17_1
   try clear hcz17_2
   try clear hcz33_0
   try clear hcz33_1
   try clear hcz33_2
   try clear hcz39_0
   try clear hcz39_1
   try clear hfz17_0
   try clear hfz17_1
   try clear hfz17_2
   try clear hfz33_0
   try clear hfz33_1
   try clear hfz33_2
   try clear hfz39_0
   try clear hfz39_1
   obtain ⟨kq, x50_19, rfl, HA, HJ19, HO_7, BK930, BK931, BK932, HB⟩ := hcut
   cases kq with
   | zero => exact absurd HA.out (by simp [dioramalaw10_EditLater.j0])
   | succ kj19 =>
    have H := HA.out; clear HA; simp only [dioramalaw10_EditLater.j0] at H
    by_cases c41 : x50_19 = true
    ·subst c41; rw [if_pos rfl] at H; obtain ⟨t940, A42, H⟩ := ob H; obtain rfl := Option.some.inj H
     go_wp2_with (first | ((with_reducible refine gate_callee (f := 20) rfl ?_); refine zC 51 Try.func20 #[] ?_; (with_reducible refine (dioramalaw10_awake.calls kj19  t940 _ A42.out).mono ?_); rintro e w43 ⟨rfl, hb⟩; refine ⟨_, rfl, ?_⟩; replace HO_7 := Aside0.mk (Kd.R_below (rz HO_7) hb); replace BK930 := kb BK930 hb; replace BK931 := kb BK931 hb; replace BK932 := kb BK932 hb; replace HB := bp hb; clear hb))
     go_ret
     exact ⟨ez, bz⟩
    ·obtain rfl := bf c41; rw [if_neg (show ¬ (false = true) by decide)] at H; obtain ⟨⟨t941, t942, t943⟩, A44, H⟩ := ob H
     (try dsimp only at H)
     obtain ⟨⟨t945, t946, t947⟩, A45, H⟩ := ob H
     (try dsimp only at H)
     obtain ⟨⟨t949, t950, t951⟩, A46, H⟩ := ob H
     (try dsimp only at H)
     have HC47 := Aside0.mk H; clear H; have hnb48 := NB931_930.out; have hnc48 := NB930_931.out; have hnb49 := NB931_932.out; have hnc49 := NB932_931.out; obtain ⟨hcz50_0, hcz50_1, hcz50_2, hfz50_0, hfz50_1, hfz50_2⟩ := xc3 BK931
     go_upto_region 10 with (first | ((with_reducible refine gate_callee (f := 43) rfl ?_); refine zC 56 Try.func43 #[.int .i64 a0_3, .int .i64 a0_1] ?_; (with_reducible refine (dioramaref02_From.calls kj19 a0_3 a0_1 t941 t942 t943 _ A44.out).mono ?_); rintro e w51 ⟨rfl, hb⟩; refine ⟨_, rfl, ?_⟩; replace HO_7 := Aside0.mk (Kd.R_below (rz HO_7) hb); replace BK930 := kb BK930 hb; replace BK931 := kb BK931 hb; replace BK932 := kb BK932 hb; replace HB := bp hb; clear hb) | ((with_reducible refine gate_dst (N := 9) rfl ?_); refine zB 9 37 #[.int .i64 0, .int .i64 0] ?_; intro gb944 hg w52 hbox hb; replace HO_7 := Aside0.mk (Kd.R_below (rz HO_7) hb); have BK944 := Aside0.mk hbox; have GW944 := gz hg; have GE944 := gz hg; replace HB := bp hb; have NB930_944 := Aside0.mk ((by rw [hg]; exact Nat.ne_of_lt (bl BK930) : gb930 ≠ gb944)); have NB944_930 := Aside0.mk ((by rw [hg]; exact Nat.ne_of_gt (bl BK930) : gb944 ≠ gb930)); replace BK930 := kb BK930 hb; have NB931_944 := Aside0.mk ((by rw [hg]; exact Nat.ne_of_lt (bl BK931) : gb931 ≠ gb944)); have NB944_931 := Aside0.mk ((by rw [hg]; exact Nat.ne_of_gt (bl BK931) : gb944 ≠ gb931)); replace BK931 := kb BK931 hb; have NB932_944 := Aside0.mk ((by rw [hg]; exact Nat.ne_of_lt (bl BK932) : gb932 ≠ gb944)); have NB944_932 := Aside0.mk ((by rw [hg]; exact Nat.ne_of_gt (bl BK932) : gb944 ≠ gb932)); replace BK932 := kb BK932 hb; clear hb hbox hg; have hnb53 := NB944_930.out; have hnc53 := NB930_944.out; have hnb54 := NB944_931.out; have hnc54 := NB931_944.out; have hnb55 := NB944_932.out; have hnc55 := NB932_944.out; obtain ⟨hcz56_0, hcz56_1, hfz56_0, hfz56_1⟩ := xc2 BK944; have hnb57 := NB932_930.out; have hnc57 := NB930_932.out; obtain ⟨hcz58_0, hcz58_1, hfz58_0, hfz58_1⟩ := xc2 BK932) | ((with_reducible refine gate_callee (f := 44) rfl ?_); refine zC 62 Try.func44 #[.agg #[.int .i64 a0_5, .int .i64 a0_6], .agg #[.int .i64 t941, .int .i64 t942]] ?_; (with_reducible refine (dioramaref02_Add.calls kj19 a0_5 a0_6 t941 t942 t945 t946 t947 _ A45.out).mono ?_); rintro e w59 ⟨rfl, hb⟩; refine ⟨_, rfl, ?_⟩; replace HO_7 := Aside0.mk (Kd.R_below (by (with_reducible repeat (first | apply Kd.R_alloc | apply Kd.R_drewN | apply Kd.R_drew)); exact (Kd.R_mono (Kd.R_far (p := ⟨gb944, 1, none⟩) (Kd.R_far (p := ⟨gb944, 0, none⟩) (Kd.R_types HO_7.out BK944.out (by decide)) (fun _ hk => hk.2) (.int .i64 t941)) (fun _ hk => hk.2) (.int .i64 t942)) (fun _ h_ => h_.1))) hb); replace BK930 := Aside0.mk (blk_below (g := gb930) (o := .cells #[.slice A0_0 l0_0.length c0_0, .int .i64 a0_1, .int .i64 a0_2, .int .i64 a0_3, .int .i64 a0_4, .int .i64 a0_5, .int .i64 a0_6] 53 (0, 0)) (by (with_reducible repeat (first | refine blk_drewN ?_ _ | refine blk_drew ?_ | refine blk_alloc ?_ _)); refine blk_far ?_ NB930_944.out _; (with_reducible repeat (first | refine blk_drewN ?_ _ | refine blk_drew ?_ | refine blk_alloc ?_ _)); refine blk_far ?_ NB930_944.out _; (with_reducible repeat (first | refine blk_drewN ?_ _ | refine blk_drew ?_ | refine blk_alloc ?_ _)); exact BK930.out) hb); replace BK931 := Aside0.mk (blk_below (g := gb931) (o := .cells #[.slice A0_0 l0_0.length c0_0, .int .i64 a0_1, .int .i64 a0_2] 24 (0, 0)) (by (with_reducible repeat (first | refine blk_drewN ?_ _ | refine blk_drew ?_ | refine blk_alloc ?_ _)); refine blk_far ?_ NB931_944.out _; (with_reducible repeat (first | refine blk_drewN ?_ _ | refine blk_drew ?_ | refine blk_alloc ?_ _)); refine blk_far ?_ NB931_944.out _; (with_reducible repeat (first | refine blk_drewN ?_ _ | refine blk_drew ?_ | refine blk_alloc ?_ _)); exact BK931.out) hb); replace BK932 := Aside0.mk (blk_below (g := gb932) (o := .cells #[.int .i64 a0_5, .int .i64 a0_6] 37 (0, 0)) (by (with_reducible repeat (first | refine blk_drewN ?_ _ | refine blk_drew ?_ | refine blk_alloc ?_ _)); refine blk_far ?_ NB932_944.out _; (with_reducible repeat (first | refine blk_drewN ?_ _ | refine blk_drew ?_ | refine blk_alloc ?_ _)); refine blk_far ?_ NB932_944.out _; (with_reducible repeat (first | refine blk_drewN ?_ _ | refine blk_drew ?_ | refine blk_alloc ?_ _)); exact BK932.out) hb); replace BK944 := Aside0.mk (blk_below (g := gb944) (o := .cells #[.int .i64 t941, .int .i64 t942] 37 (0, 0)) (by (with_reducible repeat (first | refine blk_drewN ?_ _ | refine blk_drew ?_ | refine blk_alloc ?_ _)); refine blk_put (cs := #[.int .i64 t941, .int .i64 0]) ?_ 1 _ rfl; (with_reducible repeat (first | refine blk_drewN ?_ _ | refine blk_drew ?_ | refine blk_alloc ?_ _)); refine blk_put (cs := #[.int .i64 0, .int .i64 0]) ?_ 0 _ rfl; (with_reducible repeat (first | refine blk_drewN ?_ _ | refine blk_drew ?_ | refine blk_alloc ?_ _)); exact BK944.out) hb); replace HB := bp hb; clear hb) | ((with_reducible refine gate_dst (N := 11) rfl ?_); refine zB 11 37 #[.int .i64 0, .int .i64 0] ?_; intro gb948 hg w60 hbox hb; replace HO_7 := Aside0.mk (Kd.R_below (rz HO_7) hb); have BK948 := Aside0.mk hbox; have GW948 := gz hg; have GE948 := gz hg; replace HB := bp hb; have NB930_948 := Aside0.mk ((by rw [hg]; exact Nat.ne_of_lt (bl BK930) : gb930 ≠ gb948)); have NB948_930 := Aside0.mk ((by rw [hg]; exact Nat.ne_of_gt (bl BK930) : gb948 ≠ gb930)); replace BK930 := kb BK930 hb; have NB931_948 := Aside0.mk ((by rw [hg]; exact Nat.ne_of_lt (bl BK931) : gb931 ≠ gb948)); have NB948_931 := Aside0.mk ((by rw [hg]; exact Nat.ne_of_gt (bl BK931) : gb948 ≠ gb931)); replace BK931 := kb BK931 hb; have NB932_948 := Aside0.mk ((by rw [hg]; exact Nat.ne_of_lt (bl BK932) : gb932 ≠ gb948)); have NB948_932 := Aside0.mk ((by rw [hg]; exact Nat.ne_of_gt (bl BK932) : gb948 ≠ gb932)); replace BK932 := kb BK932 hb; have NB944_948 := Aside0.mk ((by rw [hg]; exact Nat.ne_of_lt (bl BK944) : gb944 ≠ gb948)); have NB948_944 := Aside0.mk ((by rw [hg]; exact Nat.ne_of_gt (bl BK944) : gb948 ≠ gb944)); replace BK944 := kb BK944 hb; clear hb hbox hg; have hnb61 := NB948_930.out; have hnc61 := NB930_948.out; have hnb62 := NB948_931.out; have hnc62 := NB931_948.out; have hnb63 := NB948_932.out; have hnc63 := NB932_948.out; have hnb64 := NB948_944.out; have hnc64 := NB944_948.out; obtain ⟨hcz65_0, hcz65_1, hfz65_0, hfz65_1⟩ := xc2 BK948; obtain ⟨hcz66_0, hcz66_1, hcz66_2, hfz66_0, hfz66_1, hfz66_2⟩ := xc3 BK931) | ((with_reducible refine gate_callee (f := 43) rfl ?_); refine zC 69 Try.func43 #[.int .i64 a0_4, .int .i64 a0_1] ?_; (with_reducible refine (dioramaref02_From.calls kj19 a0_4 a0_1 t949 t950 t951 _ A46.out).mono ?_); rintro e w67 ⟨rfl, hb⟩; refine ⟨_, rfl, ?_⟩; replace HO_7 := Aside0.mk (Kd.R_below (by (with_reducible repeat (first | apply Kd.R_alloc | apply Kd.R_drewN | apply Kd.R_drew)); exact (Kd.R_mono (Kd.R_far (p := ⟨gb948, 1, none⟩) (Kd.R_far (p := ⟨gb948, 0, none⟩) (Kd.R_types HO_7.out BK948.out (by decide)) (fun _ hk => hk.2) (.int .i64 t945)) (fun _ hk => hk.2) (.int .i64 t946)) (fun _ h_ => h_.1))) hb); replace BK930 := Aside0.mk (blk_below (g := gb930) (o := .cells #[.slice A0_0 l0_0.length c0_0, .int .i64 a0_1, .int .i64 a0_2, .int .i64 a0_3, .int .i64 a0_4, .int .i64 a0_5, .int .i64 a0_6] 53 (0, 0)) (by (with_reducible repeat (first | refine blk_drewN ?_ _ | refine blk_drew ?_ | refine blk_alloc ?_ _)); refine blk_far ?_ NB930_948.out _; (with_reducible repeat (first | refine blk_drewN ?_ _ | refine blk_drew ?_ | refine blk_alloc ?_ _)); refine blk_far ?_ NB930_948.out _; (with_reducible repeat (first | refine blk_drewN ?_ _ | refine blk_drew ?_ | refine blk_alloc ?_ _)); exact BK930.out) hb); replace BK931 := Aside0.mk (blk_below (g := gb931) (o := .cells #[.slice A0_0 l0_0.length c0_0, .int .i64 a0_1, .int .i64 a0_2] 24 (0, 0)) (by (with_reducible repeat (first | refine blk_drewN ?_ _ | refine blk_drew ?_ | refine blk_alloc ?_ _)); refine blk_far ?_ NB931_948.out _; (with_reducible repeat (first | refine blk_drewN ?_ _ | refine blk_drew ?_ | refine blk_alloc ?_ _)); refine blk_far ?_ NB931_948.out _; (with_reducible repeat (first | refine blk_drewN ?_ _ | refine blk_drew ?_ | refine blk_alloc ?_ _)); exact BK931.out) hb); replace BK932 := Aside0.mk (blk_below (g := gb932) (o := .cells #[.int .i64 a0_5, .int .i64 a0_6] 37 (0, 0)) (by (with_reducible repeat (first | refine blk_drewN ?_ _ | refine blk_drew ?_ | refine blk_alloc ?_ _)); refine blk_far ?_ NB932_948.out _; (with_reducible repeat (first | refine blk_drewN ?_ _ | refine blk_drew ?_ | refine blk_alloc ?_ _)); refine blk_far ?_ NB932_948.out _; (with_reducible repeat (first | refine blk_drewN ?_ _ | refine blk_drew ?_ | refine blk_alloc ?_ _)); exact BK932.out) hb); replace BK944 := Aside0.mk (blk_below (g := gb944) (o := .cells #[.int .i64 t941, .int .i64 t942] 37 (0, 0)) (by (with_reducible repeat (first | refine blk_drewN ?_ _ | refine blk_drew ?_ | refine blk_alloc ?_ _)); refine blk_far ?_ NB944_948.out _; (with_reducible repeat (first | refine blk_drewN ?_ _ | refine blk_drew ?_ | refine blk_alloc ?_ _)); refine blk_far ?_ NB944_948.out _; (with_reducible repeat (first | refine blk_drewN ?_ _ | refine blk_drew ?_ | refine blk_alloc ?_ _)); exact BK944.out) hb); replace BK948 := Aside0.mk (blk_below (g := gb948) (o := .cells #[.int .i64 t945, .int .i64 t946] 37 (0, 0)) (by (with_reducible repeat (first | refine blk_drewN ?_ _ | refine blk_drew ?_ | refine blk_alloc ?_ _)); refine blk_put (cs := #[.int .i64 t945, .int .i64 0]) ?_ 1 _ rfl; (with_reducible repeat (first | refine blk_drewN ?_ _ | refine blk_drew ?_ | refine blk_alloc ?_ _)); refine blk_put (cs := #[.int .i64 0, .int .i64 0]) ?_ 0 _ rfl; (with_reducible repeat (first | refine blk_drewN ?_ _ | refine blk_drew ?_ | refine blk_alloc ?_ _)); exact BK948.out) hb); replace HB := bp hb; clear hb) | ((with_reducible refine gate_dst (N := 13) rfl ?_); refine zB 13 37 #[.int .i64 0, .int .i64 0] ?_; intro gb952 hg w68 hbox hb; replace HO_7 := Aside0.mk (Kd.R_below (rz HO_7) hb); have BK952 := Aside0.mk hbox; have GW952 := gz hg; have GE952 := gz hg; replace HB := bp hb; have NB930_952 := Aside0.mk ((by rw [hg]; exact Nat.ne_of_lt (bl BK930) : gb930 ≠ gb952)); have NB952_930 := Aside0.mk ((by rw [hg]; exact Nat.ne_of_gt (bl BK930) : gb952 ≠ gb930)); replace BK930 := kb BK930 hb; have NB931_952 := Aside0.mk ((by rw [hg]; exact Nat.ne_of_lt (bl BK931) : gb931 ≠ gb952)); have NB952_931 := Aside0.mk ((by rw [hg]; exact Nat.ne_of_gt (bl BK931) : gb952 ≠ gb931)); replace BK931 := kb BK931 hb; have NB932_952 := Aside0.mk ((by rw [hg]; exact Nat.ne_of_lt (bl BK932) : gb932 ≠ gb952)); have NB952_932 := Aside0.mk ((by rw [hg]; exact Nat.ne_of_gt (bl BK932) : gb952 ≠ gb932)); replace BK932 := kb BK932 hb; have NB944_952 := Aside0.mk ((by rw [hg]; exact Nat.ne_of_lt (bl BK944) : gb944 ≠ gb952)); have NB952_944 := Aside0.mk ((by rw [hg]; exact Nat.ne_of_gt (bl BK944) : gb952 ≠ gb944)); replace BK944 := kb BK944 hb; have NB948_952 := Aside0.mk ((by rw [hg]; exact Nat.ne_of_lt (bl BK948) : gb948 ≠ gb952)); have NB952_948 := Aside0.mk ((by rw [hg]; exact Nat.ne_of_gt (bl BK948) : gb952 ≠ gb948)); replace BK948 := kb BK948 hb; clear hb hbox hg; have hnb69 := NB952_930.out; have hnc69 := NB930_952.out; have hnb70 := NB952_931.out; have hnc70 := NB931_952.out; have hnb71 := NB952_932.out; have hnc71 := NB932_952.out; have hnb72 := NB952_944.out; have hnc72 := NB944_952.out; have hnb73 := NB952_948.out; have hnc73 := NB948_952.out; obtain ⟨hcz74_0, hcz74_1, hfz74_0, hfz74_1⟩ := xc2 BK952))
     (try simp only [Act.put, List.setIfInBounds_toArray, List.set_cons_zero, List.set_cons_succ])
     go_cut [81] (fun v81 wc => ∃ (kq : Nat) (x81_46 : Bool), v81 = .bool x81_46 ∧ Aside0 (dioramalaw10_EditLater.j1 kq t935 x81_46 l0_0 a0_1 a0_2 a0_5 a0_6 t945 t946 t949 t950 = some r) ∧ Aside0 (kq ≤ kj19) ∧ Aside0 (Kd.R k77 77 wc w.heap.size (fun _ => True) v937 t935) ∧ Aside0 (wc.heap[gb930]? = some (.cells #[(.slice A0_0 l0_0.length c0_0), .int .i64 a0_1, .int .i64 a0_2, .int .i64 a0_3, .int .i64 a0_4, .int .i64 a0_5, .int .i64 a0_6] 53 (0, 0))) ∧ Aside0 (wc.heap[gb931]? = some (.cells #[(.slice A0_0 l0_0.length c0_0), .int .i64 a0_1, .int .i64 a0_2] 24 (0, 0))) ∧ Aside0 (wc.heap[gb932]? = some (.cells #[.int .i64 a0_5, .int .i64 a0_6] 37 (0, 0))) ∧ Aside0 (wc.heap[gb944]? = some (.cells #[.int .i64 t941, .int .i64 t942] 37 (0, 0))) ∧ Aside0 (wc.heap[gb948]? = some (.cells #[.int .i64 t945, .int .i64 t946] 37 (0, 0))) ∧ Aside0 (wc.heap[gb952]? = some (.cells #[.int .i64 t949, .int .i64 t950] 37 (0, 0))) ∧ Aside0 (Below w.heap.size w wc))
     case first =>
      have H := HC47.out; clear HC47
      by_cases c75 : t943 = 0
      ·rw [if_pos c75] at H; have c75b0 : (t943 == 0) = true := beq_iff_eq.mpr c75; have c75b1 : (t943 != 0) = false := bne_eq_false_iff_eq.mpr c75; clear c75
       (first | rw [c75b0] | (simp only [i64_w, i32_w]; rw [c75b0]) | skip)
       by_cases c76 : t947 = 0
       ·rw [if_pos c76] at H; have c76b0 : (t947 == 0) = true := beq_iff_eq.mpr c76; have c76b1 : (t947 != 0) = false := bne_eq_false_iff_eq.mpr c76; clear c76; have H' := Aside0.mk H; clear H
        go_wp2
        go_meet
        case rel => exact ⟨_, ((t951 != 0)), jz, H', ⟨by have := HJ19.out; first | omega | exact Nat.le_refl _⟩, ⟨by (with_reducible repeat (first | apply Kd.R_alloc | apply Kd.R_drewN | apply Kd.R_drew)); exact Kd.R_mono (Kd.R_far (p := ⟨gb952, 1, none⟩) (Kd.R_far (p := ⟨gb952, 0, none⟩) (Kd.R_types HO_7.out BK952.out (by decide)) (fun _ hk => hk.2) (.int .i64 t949)) (fun _ hk => hk.2) (.int .i64 t950)) (fun _ hk => trivial)⟩, ⟨by (with_reducible repeat (first | refine blk_drewN ?_ _ | refine blk_drew ?_ | refine blk_alloc ?_ _)); refine blk_far ?_ NB930_952.out _; (with_reducible repeat (first | refine blk_drewN ?_ _ | refine blk_drew ?_ | refine blk_alloc ?_ _)); refine blk_far ?_ NB930_952.out _; (with_reducible repeat (first | refine blk_drewN ?_ _ | refine blk_drew ?_ | refine blk_alloc ?_ _)); exact BK930.out⟩, ⟨by (with_reducible repeat (first | refine blk_drewN ?_ _ | refine blk_drew ?_ | refine blk_alloc ?_ _)); refine blk_far ?_ NB931_952.out _; (with_reducible repeat (first | refine blk_drewN ?_ _ | refine blk_drew ?_ | refine blk_alloc ?_ _)); refine blk_far ?_ NB931_952.out _; (with_reducible repeat (first | refine blk_drewN ?_ _ | refine blk_drew ?_ | refine blk_alloc ?_ _)); exact BK931.out⟩, ⟨by (with_reducible repeat (first | refine blk_drewN ?_ _ | refine blk_drew ?_ | refine blk_alloc ?_ _)); refine blk_far ?_ NB932_952.out _; (with_reducible repeat (first | refine blk_drewN ?_ _ | refine blk_drew ?_ | refine blk_alloc ?_ _)); refine blk_far ?_ NB932_952.out _; (with_reducible repeat (first | refine blk_drewN ?_ _ | refine blk_drew ?_ | refine blk_alloc ?_ _)); exact BK932.out⟩, ⟨by (with_reducible repeat (first | refine blk_drewN ?_ _ | refine blk_drew ?_ | refine blk_alloc ?_ _)); refine blk_far ?_ NB944_952.out _; (with_reducible repeat (first | refine blk_drewN ?_ _ | refine blk_drew ?_ | refine blk_alloc ?_ _)); refine blk_far ?_ NB944_952.out _; (with_reducible repeat (first | refine blk_drewN ?_ _ | refine blk_drew ?_ | refine blk_alloc ?_ _)); exact BK944.out⟩, ⟨by (with_reducible repeat (first | refine blk_drewN ?_ _ | refine blk_drew ?_ | refine blk_alloc ?_ _)); refine blk_far ?_ NB948_952.out _; (with_reducible repeat (first | refine blk_drewN ?_ _ | refine blk_drew ?_ | refine blk_alloc ?_ _)); refine blk_far ?_ NB948_952.out _; (with_reducible repeat (first | refine blk_drewN ?_ _ | refine blk_drew ?_ | refine blk_alloc ?_ _)); exact BK948.out⟩, ⟨by (with_reducible repeat (first | refine blk_drewN ?_ _ | refine blk_drew ?_ | refine blk_alloc ?_ _)); refine blk_put (cs := #[.int .i64 t949, .int .i64 0]) ?_ 1 _ rfl; (with_reducible repeat (first | refine blk_drewN ?_ _ | refine blk_drew ?_ | refine blk_alloc ?_ _)); refine blk_put (cs := #[.int .i64 0, .int .i64 0]) ?_ 0 _ rfl; (with_reducible repeat (first | refine blk_drewN ?_ _ | refine blk_drew ?_ | refine blk_alloc ?_ _)); exact BK952.out⟩, ⟨bz⟩⟩
       ·rw [if_neg c76] at H; have c76b0 : (t947 == 0) = false := beq_eq_false_iff_ne.mpr c76; have c76b1 : (t947 != 0) = true := bne_iff_ne.mpr c76; have H' := Aside0.mk H; clear H
        go_wp2
        go_meet
        case rel => exact ⟨_, (true), jz, H', ⟨by have := HJ19.out; first | omega | exact Nat.le_refl _⟩, ⟨by (with_reducible repeat (first | apply Kd.R_alloc | apply Kd.R_drewN | apply Kd.R_drew)); exact Kd.R_mono (Kd.R_far (p := ⟨gb952, 1, none⟩) (Kd.R_far (p := ⟨gb952, 0, none⟩) (Kd.R_types HO_7.out BK952.out (by decide)) (fun _ hk => hk.2) (.int .i64 t949)) (fun _ hk => hk.2) (.int .i64 t950)) (fun _ hk => trivial)⟩, ⟨by (with_reducible repeat (first | refine blk_drewN ?_ _ | refine blk_drew ?_ | refine blk_alloc ?_ _)); refine blk_far ?_ NB930_952.out _; (with_reducible repeat (first | refine blk_drewN ?_ _ | refine blk_drew ?_ | refine blk_alloc ?_ _)); refine blk_far ?_ NB930_952.out _; (with_reducible repeat (first | refine blk_drewN ?_ _ | refine blk_drew ?_ | refine blk_alloc ?_ _)); exact BK930.out⟩, ⟨by (with_reducible repeat (first | refine blk_drewN ?_ _ | refine blk_drew ?_ | refine blk_alloc ?_ _)); refine blk_far ?_ NB931_952.out _; (with_reducible repeat (first | refine blk_drewN ?_ _ | refine blk_drew ?_ | refine blk_alloc ?_ _)); refine blk_far ?_ NB931_952.out _; (with_reducible repeat (first | refine blk_drewN ?_ _ | refine blk_drew ?_ | refine blk_alloc ?_ _)); exact BK931.out⟩, ⟨by (with_reducible repeat (first | refine blk_drewN ?_ _ | refine blk_drew ?_ | refine blk_alloc ?_ _)); refine blk_far ?_ NB932_952.out _; (with_reducible repeat (first | refine blk_drewN ?_ _ | refine blk_drew ?_ | refine blk_alloc ?_ _)); refine blk_far ?_ NB932_952.out _; (with_reducible repeat (first | refine blk_drewN ?_ _ | refine blk_drew ?_ | refine blk_alloc ?_ _)); exact BK932.out⟩, ⟨by (with_reducible repeat (first | refine blk_drewN ?_ _ | refine blk_drew ?_ | refine blk_alloc ?_ _)); refine blk_far ?_ NB944_952.out _; (with_reducible repeat (first | refine blk_drewN ?_ _ | refine blk_drew ?_ | refine blk_alloc ?_ _)); refine blk_far ?_ NB944_952.out _; (with_reducible repeat (first | refine blk_drewN ?_ _ | refine blk_drew ?_ | refine blk_alloc ?_ _)); exact BK944.out⟩, ⟨by (with_reducible repeat (first | refine blk_drewN ?_ _ | refine blk_drew ?_ | refine blk_alloc ?_ _)); refine blk_far ?_ NB948_952.out _; (with_reducible repeat (first | refine blk_drewN ?_ _ | refine blk_drew ?_ | refine blk_alloc ?_ _)); refine blk_far ?_ NB948_952.out _; (with_reducible repeat (first | refine blk_drewN ?_ _ | refine blk_drew ?_ | refine blk_alloc ?_ _)); exact BK948.out⟩, ⟨by (with_reducible repeat (first | refine blk_drewN ?_ _ | refine blk_drew ?_ | refine blk_alloc ?_ _)); refine blk_put (cs := #[.int .i64 t949, .int .i64 0]) ?_ 1 _ rfl; (with_reducible repeat (first | refine blk_drewN ?_ _ | refine blk_drew ?_ | refine blk_alloc ?_ _)); refine blk_put (cs := #[.int .i64 0, .int .i64 0]) ?_ 0 _ rfl; (with_reducible repeat (first | refine blk_drewN ?_ _ | refine blk_drew ?_ | refine blk_alloc ?_ _)); exact BK952.out⟩, ⟨bz⟩⟩
      ·rw [if_neg c75] at H; have c75b0 : (t943 == 0) = false := beq_eq_false_iff_ne.mpr c75; have c75b1 : (t943 != 0) = true := bne_iff_ne.mpr c75
       (first | rw [c75b0] | (simp only [i64_w, i32_w]; rw [c75b0]) | skip)
       have H' := Aside0.mk H; clear H
       go_wp2
       go_meet
       case rel => exact ⟨_, (true), jz, H', ⟨by have := HJ19.out; first | omega | exact Nat.le_refl _⟩, ⟨by (with_reducible repeat (first | apply Kd.R_alloc | apply Kd.R_drewN | apply Kd.R_drew)); exact Kd.R_mono (Kd.R_far (p := ⟨gb952, 1, none⟩) (Kd.R_far (p := ⟨gb952, 0, none⟩) (Kd.R_types HO_7.out BK952.out (by decide)) (fun _ hk => hk.2) (.int .i64 t949)) (fun _ hk => hk.2) (.int .i64 t950)) (fun _ hk => trivial)⟩, ⟨by (with_reducible repeat (first | refine blk_drewN ?_ _ | refine blk_drew ?_ | refine blk_alloc ?_ _)); refine blk_far ?_ NB930_952.out _; (with_reducible repeat (first | refine blk_drewN ?_ _ | refine blk_drew ?_ | refine blk_alloc ?_ _)); refine blk_far ?_ NB930_952.out _; (with_reducible repeat (first | refine blk_drewN ?_ _ | refine blk_drew ?_ | refine blk_alloc ?_ _)); exact BK930.out⟩, ⟨by (with_reducible repeat (first | refine blk_drewN ?_ _ | refine blk_drew ?_ | refine blk_alloc ?_ _)); refine blk_far ?_ NB931_952.out _; (with_reducible repeat (first | refine blk_drewN ?_ _ | refine blk_drew ?_ | refine blk_alloc ?_ _)); refine blk_far ?_ NB931_952.out _; (with_reducible repeat (first | refine blk_drewN ?_ _ | refine blk_drew ?_ | refine blk_alloc ?_ _)); exact BK931.out⟩, ⟨by (with_reducible repeat (first | refine blk_drewN ?_ _ | refine blk_drew ?_ | refine blk_alloc ?_ _)); refine blk_far ?_ NB932_952.out _; (with_reducible repeat (first | refine blk_drewN ?_ _ | refine blk_drew ?_ | refine blk_alloc ?_ _)); refine blk_far ?_ NB932_952.out _; (with_reducible repeat (first | refine blk_drewN ?_ _ | refine blk_drew ?_ | refine blk_alloc ?_ _)); exact BK932.out⟩, ⟨by (with_reducible repeat (first | refine blk_drewN ?_ _ | refine blk_drew ?_ | refine blk_alloc ?_ _)); refine blk_far ?_ NB944_952.out _; (with_reducible repeat (first | refine blk_drewN ?_ _ | refine blk_drew ?_ | refine blk_alloc ?_ _)); refine blk_far ?_ NB944_952.out _; (with_reducible repeat (first | refine blk_drewN ?_ _ | refine blk_drew ?_ | refine blk_alloc ?_ _)); exact BK944.out⟩, ⟨by (with_reducible repeat (first | refine blk_drewN ?_ _ | refine blk_drew ?_ | refine blk_alloc ?_ _)); refine blk_far ?_ NB948_952.out _; (with_reducible repeat (first | refine blk_drewN ?_ _ | refine blk_drew ?_ | refine blk_alloc ?_ _)); refine blk_far ?_ NB948_952.out _; (with_reducible repeat (first | refine blk_drewN ?_ _ | refine blk_drew ?_ | refine blk_alloc ?_ _)); exact BK948.out⟩, ⟨by (with_reducible repeat (first | refine blk_drewN ?_ _ | refine blk_drew ?_ | refine blk_alloc ?_ _)); refine blk_put (cs := #[.int .i64 t949, .int .i64 0]) ?_ 1 _ rfl; (with_reducible repeat (first | refine blk_drewN ?_ _ | refine blk_drew ?_ | refine blk_alloc ?_ _)); refine blk_put (cs := #[.int .i64 0, .int .i64 0]) ?_ 0 _ rfl; (with_reducible repeat (first | refine blk_drewN ?_ _ | refine blk_drew ?_ | refine blk_alloc ?_ _)); exact BK952.out⟩, ⟨bz⟩⟩
     case rest =>
      clear HC47
      try clear c1
      try clear c2
      try clear p2
      try clear c3
      try clear c4
      try clear c5
      try clear c6
      try clear c7
      try clear c12
      try clear c15
      try clear c16
      try clear c19
      try clear c20
      try clear c31
      try clear c32
      try clear c35
      try clear c35b0
      try clear c35b1
      try clear c37
      try clear c38
      try clear c41
      try clear c43
      try clear c44
      try clear c48
      try clear c49
      try clear c53
      try clear c54
      try clear c55
      try clear c57
      try clear c61
      try clear c62
      try clear c63
      try clear c64
      try clear c69
      try clear c70
      try clear c71
      try clear c72
      try clear c73
      try clear c75
      try clear c75b0
      try clear c75b1
      try clear c76
      try clear c76b0
      try clear c76b1
      try clear hcz17_0
      try clear hcz17_1
      try clear hcz17_2
      try clear hcz33_0
      try clear hcz33_1
      try clear hcz33_2
      try clear hcz39_0
      try clear hcz39_1
      try clear hcz50_0
      try clear hcz50_1
      try clear hcz50_2
      try clear hcz56_0
      try clear hcz56_1
      try clear hcz58_0
      try clear hcz58_1
      try clear hcz65_0
      try clear hcz65_1
      try clear hcz66_0
      try clear hcz66_1
      try clear hcz66_2
      try clear hcz74_0
      try clear hcz74_1
      try clear hfz17_0
      try clear hfz17_1
      try clear hfz17_2
      try clear hfz33_0
      try clear hfz33_1
      try clear hfz33_2
      try clear hfz39_0
      try clear hfz39_1
      try clear hfz50_0
      try clear hfz50_1
      try clear hfz50_2
      try clear hfz56_0
      try clear hfz56_1
      try clear hfz58_0
      try clear hfz58_1
      try clear hfz65_0
      try clear hfz65_1
      try clear hfz66_0
      try clear hfz66_1
      try clear hfz66_2
      try clear hfz74_0
      try clear hfz74_1
      try clear p2
      obtain ⟨kq, x81_46, rfl, HA, HJ46, HO_7, BK930, BK931, BK932, BK944, BK948, BK952, HB⟩ := hcut
      cases kq with
      | zero => exact absurd HA.out (by simp [dioramalaw10_EditLater.j1])
      | succ kj46 =>
       have H := HA.out; clear HA; simp only [dioramalaw10_EditLater.j1] at H
       by_cases c77 : x81_46 = true
       ·subst c77; rw [if_pos rfl] at H; obtain ⟨t953, A78, H⟩ := ob H; obtain rfl := Option.some.inj H
        go_wp2_with (first | ((with_reducible refine gate_callee (f := 20) rfl ?_); refine zC 82 Try.func20 #[] ?_; (with_reducible refine (dioramalaw10_awake.calls kj46  t953 _ A78.out).mono ?_); rintro e w79 ⟨rfl, hb⟩; refine ⟨_, rfl, ?_⟩; replace HO_7 := Aside0.mk (Kd.R_below (rz HO_7) hb); replace BK930 := kb BK930 hb; replace BK931 := kb BK931 hb; replace BK932 := kb BK932 hb; replace BK944 := kb BK944 hb; replace BK948 := kb BK948 hb; replace BK952 := kb BK952 hb; replace HB := bp hb; clear hb))
        go_ret
        exact ⟨ez, bz⟩
       ·obtain rfl := bf c77; rw [if_neg (show ¬ (false = true) by decide)] at H; obtain ⟨⟨t954, t955⟩, A80, H⟩ := ob H
        (try dsimp only at H)
        have HC81 := Aside0.mk H; clear H; have hnb82 := NB948_930.out; have hnc82 := NB930_948.out; have hnb83 := NB948_931.out; have hnc83 := NB931_948.out; have hnb84 := NB948_932.out; have hnc84 := NB932_948.out; have hnb85 := NB948_944.out; have hnc85 := NB944_948.out; have hnb86 := NB948_952.out; have hnc86 := NB952_948.out; obtain ⟨hcz87_0, hcz87_1, hfz87_0, hfz87_1⟩ := xc2 BK948; have hnb88 := NB952_930.out; have hnc88 := NB930_952.out; have hnb89 := NB952_931.out; have hnc89 := NB931_952.out; have hnb90 := NB952_932.out; have hnc90 := NB932_952.out; have hnb91 := NB952_944.out; have hnc91 := NB944_952.out; obtain ⟨hcz92_0, hcz92_1, hfz92_0, hfz92_1⟩ := xc2 BK952
        go_upto_region 13 with (first | ((with_reducible refine gate_callee (f := 45) rfl ?_); refine zC 86 Try.func45 #[.agg #[.int .i64 t945, .int .i64 t946], .agg #[.int .i64 t949, .int .i64 t950]] ?_; (with_reducible refine (dioramaref02_Cmp.calls t945 t946 t949 t950 t954 t955 _ A80.out).mono ?_); rintro e w93 ⟨rfl, hb⟩; refine ⟨_, rfl, ?_⟩; replace HO_7 := Aside0.mk (Kd.R_below (rz HO_7) hb); replace BK930 := kb BK930 hb; replace BK931 := kb BK931 hb; replace BK932 := kb BK932 hb; replace BK944 := kb BK944 hb; replace BK948 := kb BK948 hb; replace BK952 := kb BK952 hb; replace HB := bp hb; clear hb))
        (try simp only [Act.put, List.setIfInBounds_toArray, List.set_cons_zero, List.set_cons_succ])
        go_cut [95] (fun v95 wc => ∃ (kq : Nat) (x95_80 : Bool), v95 = .bool x95_80 ∧ Aside0 (dioramalaw10_EditLater.j2 kq t935 x95_80 l0_0 a0_1 a0_2 a0_5 a0_6 t945 t946 = some r) ∧ Aside0 (kq ≤ kj46) ∧ Aside0 (Kd.R k77 77 wc w.heap.size (fun _ => True) v937 t935) ∧ Aside0 (wc.heap[gb930]? = some (.cells #[(.slice A0_0 l0_0.length c0_0), .int .i64 a0_1, .int .i64 a0_2, .int .i64 a0_3, .int .i64 a0_4, .int .i64 a0_5, .int .i64 a0_6] 53 (0, 0))) ∧ Aside0 (wc.heap[gb931]? = some (.cells #[(.slice A0_0 l0_0.length c0_0), .int .i64 a0_1, .int .i64 a0_2] 24 (0, 0))) ∧ Aside0 (wc.heap[gb932]? = some (.cells #[.int .i64 a0_5, .int .i64 a0_6] 37 (0, 0))) ∧ Aside0 (wc.heap[gb944]? = some (.cells #[.int .i64 t941, .int .i64 t942] 37 (0, 0))) ∧ Aside0 (wc.heap[gb948]? = some (.cells #[.int .i64 t945, .int .i64 t946] 37 (0, 0))) ∧ Aside0 (wc.heap[gb952]? = some (.cells #[.int .i64 t949, .int .i64 t950] 37 (0, 0))) ∧ Aside0 (Below w.heap.size w wc))
        case first =>
         have H := HC81.out; clear HC81
         by_cases c94 : a0_5 < 0
         ·rw [if_pos c94] at H; have c94b0 : decide (a0_5 < 0) = true := decide_eq_true c94; clear c94
          (first | rw [c94b0] | (simp only [i64_w, i32_w]; rw [c94b0]) | skip)
          have H' := Aside0.mk H; clear H; have hnb95 := NB932_930.out; have hnc95 := NB930_932.out; have hnb96 := NB932_931.out; have hnc96 := NB931_932.out; have hnb97 := NB932_944.out; have hnc97 := NB944_932.out; have hnb98 := NB932_948.out; have hnc98 := NB948_932.out; have hnb99 := NB932_952.out; have hnc99 := NB952_932.out; obtain ⟨hcz100_0, hcz100_1, hfz100_0, hfz100_1⟩ := xc2 BK932
          go_wp2
          go_meet
          case rel => exact ⟨_, (true), jz, H', ⟨by have := HJ19.out; have := HJ46.out; first | omega | exact Nat.le_refl _⟩, ⟨rz HO_7⟩, ⟨kz⟩, ⟨kz⟩, ⟨kz⟩, ⟨kz⟩, ⟨kz⟩, ⟨kz⟩, ⟨bz⟩⟩
         ·rw [if_neg c94] at H; have c94b0 : decide (a0_5 < 0) = false := decide_eq_false c94; clear c94
          (first | rw [c94b0] | (simp only [i64_w, i32_w]; rw [c94b0]) | skip)
          have H' := Aside0.mk H; clear H; have hnb101 := NB932_930.out; have hnc101 := NB930_932.out; have hnb102 := NB932_931.out; have hnc102 := NB931_932.out; have hnb103 := NB932_944.out; have hnc103 := NB944_932.out; have hnb104 := NB932_948.out; have hnc104 := NB948_932.out; have hnb105 := NB932_952.out; have hnc105 := NB952_932.out; obtain ⟨hcz106_0, hcz106_1, hfz106_0, hfz106_1⟩ := xc2 BK932
          go_wp2
          go_meet
          case rel => exact ⟨_, (decide (t954 ≥ 0)), jz, H', ⟨by have := HJ19.out; have := HJ46.out; first | omega | exact Nat.le_refl _⟩, ⟨rz HO_7⟩, ⟨kz⟩, ⟨kz⟩, ⟨kz⟩, ⟨kz⟩, ⟨kz⟩, ⟨kz⟩, ⟨bz⟩⟩
        case rest =>
         clear HC81
         try clear c1
         try clear c2
         try clear p2
         try clear c3
         try clear c4
         try clear c5
         try clear c6
         try clear c7
         try clear c8
         try clear c9
         try clear c10
         try clear c12
         try clear c15
         try clear c16
         try clear c19
         try clear c20
         try clear c31
         try clear c32
         try clear c35
         try clear c35b0
         try clear c35b1
         try clear c37
         try clear c38
         try clear c41
         try clear c43
         try clear c44
         try clear c45
         try clear c48
         try clear c49
         try clear c53
         try clear c54
         try clear c55
         try clear c57
         try clear c61
         try clear c62
         try clear c63
         try clear c64
         try clear c69
         try clear c70
         try clear c71
         try clear c72
         try clear c73
         try clear c75
         try clear c75b0
         try clear c75b1
         try clear c76
         try clear c76b0
         try clear c76b1
         try clear c77
         try clear c82
         try clear c83
         try clear c84
         try clear c85
         try clear c86
         try clear c88
         try clear c89
         try clear c90
         try clear c91
         try clear c94
         try clear c94b0
         try clear c95
         try clear c96
         try clear c97
         try clear c98
         try clear c99
         try clear c101
         try clear c102
         try clear c103
         try clear c104
         try clear c105
         try clear hcz100_0
         try clear hcz100_1
         try clear hcz106_0
         try clear hcz106_1
         try clear hcz17_0
         try clear hcz17_1
         try clear hcz17_2
         try clear hcz33_0
         try clear hcz33_1
         try clear hcz33_2
         try clear hcz39_0
         try clear hcz39_1
         try clear hcz50_0
         try clear hcz50_1
         try clear hcz50_2
         try clear hcz56_0
         try clear hcz56_1
         try clear hcz58_0
         try clear hcz58_1
         try clear hcz65_0
         try clear hcz65_1
         try clear hcz66_0
         try clear hcz66_1
         try clear hcz66_2
         try clear hcz74_0
         try clear hcz74_1
         try clear hcz87_0
         try clear hcz87_1
         try clear hcz92_0
         try clear hcz92_1
         try clear hfz100_0
         try clear hfz100_1
         try clear hfz106_0
         try clear hfz106_1
         try clear hfz17_0
         try clear hfz17_1
         try clear hfz17_2
         try clear hfz33_0
         try clear hfz33_1
         try clear hfz33_2
         try clear hfz39_0
         try clear hfz39_1
         try clear hfz50_0
         try clear hfz50_1
         try clear hfz50_2
         try clear hfz56_0
         try clear hfz56_1
         try clear hfz58_0
         try clear hfz58_1
         try clear hfz65_0
         try clear hfz65_1
         try clear hfz66_0
         try clear hfz66_1
         try clear hfz66_2
         try clear hfz74_0
         try clear hfz74_1
         try clear hfz87_0
         try clear hfz87_1
         try clear hfz92_0
         try clear hfz92_1
         try clear p2
         obtain ⟨kq, x95_80, rfl, HA, HJ80, HO_7, BK930, BK931, BK932, BK944, BK948, BK952, HB⟩ := hcut
         cases kq with
         | zero => exact absurd HA.out (by simp [dioramalaw10_EditLater.j2])
         | succ kj80 =>
          have H := HA.out; clear HA; simp only [dioramalaw10_EditLater.j2] at H
          by_cases c107 : x95_80 = true
          ·subst c107; rw [if_pos rfl] at H; obtain ⟨⟨t956, t957, t958, t959⟩, A108, H⟩ := ob H
           (try dsimp only at H)
           by_cases c109 : t958 = true
           ·subst c109; rw [if_pos rfl] at H; obtain rfl := Option.some.inj H; have hnb110 := NB931_930.out; have hnc110 := NB930_931.out; have hnb111 := NB931_932.out; have hnc111 := NB932_931.out; have hnb112 := NB931_944.out; have hnc112 := NB944_931.out; have hnb113 := NB931_948.out; have hnc113 := NB948_931.out; have hnb114 := NB931_952.out; have hnc114 := NB952_931.out; obtain ⟨hcz115_0, hcz115_1, hcz115_2, hfz115_0, hfz115_1, hfz115_2⟩ := xc3 BK931; have hnb116 := NB932_930.out; have hnc116 := NB930_932.out; have hnb117 := NB932_944.out; have hnc117 := NB944_932.out; have hnb118 := NB932_948.out; have hnc118 := NB948_932.out; have hnb119 := NB932_952.out; have hnc119 := NB952_932.out; obtain ⟨hcz120_0, hcz120_1, hfz120_0, hfz120_1⟩ := xc2 BK932; obtain ⟨Ao121, co121, eo121⟩ := Kd.R_slice HO_7.out; subst eo121
            go_wp2_with (first | ((with_reducible refine gate_callee (f := 32) rfl ?_); refine zC 103 Try.func32 #[.slice Ao121 t935.length co121, .int .i64 a0_1, .int .i64 a0_2, .agg #[.int .i64 a0_5, .int .i64 a0_6]] ?_; (with_reducible refine (edit_Media.calls _ _ t935 a0_1 a0_2 a0_5 a0_6 t956 t957 true t959 _ ?side1 ?side2 A108.out).mono ?_); (case side1 => exact cr HO_7); (case side2 => exact (Kd.R_reads' HO_7.out).2.1); rintro e w122 ⟨rfl, hb⟩; refine ⟨_, rfl, ?_⟩; replace HO_7 := Aside0.mk (Kd.R_below (rz HO_7) hb); replace BK930 := kb BK930 hb; replace BK931 := kb BK931 hb; replace BK932 := kb BK932 hb; replace BK944 := kb BK944 hb; replace BK948 := kb BK948 hb; replace BK952 := kb BK952 hb; replace HB := bp hb; clear hb) | ((with_reducible refine gate_dst (N := 17) rfl ?_); refine zB 17 37 #[.int .i64 0, .int .i64 0] ?_; intro gb960 hg w123 hbox hb; replace HO_7 := Aside0.mk (Kd.R_below (rz HO_7) hb); have BK960 := Aside0.mk hbox; have GW960 := gz hg; have GE960 := gz hg; replace HB := bp hb; have NB930_960 := Aside0.mk ((by rw [hg]; exact Nat.ne_of_lt (bl BK930) : gb930 ≠ gb960)); have NB960_930 := Aside0.mk ((by rw [hg]; exact Nat.ne_of_gt (bl BK930) : gb960 ≠ gb930)); replace BK930 := kb BK930 hb; have NB931_960 := Aside0.mk ((by rw [hg]; exact Nat.ne_of_lt (bl BK931) : gb931 ≠ gb960)); have NB960_931 := Aside0.mk ((by rw [hg]; exact Nat.ne_of_gt (bl BK931) : gb960 ≠ gb931)); replace BK931 := kb BK931 hb; have NB932_960 := Aside0.mk ((by rw [hg]; exact Nat.ne_of_lt (bl BK932) : gb932 ≠ gb960)); have NB960_932 := Aside0.mk ((by rw [hg]; exact Nat.ne_of_gt (bl BK932) : gb960 ≠ gb932)); replace BK932 := kb BK932 hb; have NB944_960 := Aside0.mk ((by rw [hg]; exact Nat.ne_of_lt (bl BK944) : gb944 ≠ gb960)); have NB960_944 := Aside0.mk ((by rw [hg]; exact Nat.ne_of_gt (bl BK944) : gb960 ≠ gb944)); replace BK944 := kb BK944 hb; have NB948_960 := Aside0.mk ((by rw [hg]; exact Nat.ne_of_lt (bl BK948) : gb948 ≠ gb960)); have NB960_948 := Aside0.mk ((by rw [hg]; exact Nat.ne_of_gt (bl BK948) : gb960 ≠ gb948)); replace BK948 := kb BK948 hb; have NB952_960 := Aside0.mk ((by rw [hg]; exact Nat.ne_of_lt (bl BK952) : gb952 ≠ gb960)); have NB960_952 := Aside0.mk ((by rw [hg]; exact Nat.ne_of_gt (bl BK952) : gb960 ≠ gb952)); replace BK952 := kb BK952 hb; clear hb hbox hg; have hnb124 := NB960_930.out; have hnc124 := NB930_960.out; have hnb125 := NB960_931.out; have hnc125 := NB931_960.out; have hnb126 := NB960_932.out; have hnc126 := NB932_960.out; have hnb127 := NB960_944.out; have hnc127 := NB944_960.out; have hnb128 := NB960_948.out; have hnc128 := NB948_960.out; have hnb129 := NB960_952.out; have hnc129 := NB952_960.out; obtain ⟨hcz130_0, hcz130_1, hfz130_0, hfz130_1⟩ := xc2 BK960))
            go_ret
            exact ⟨ez, bz⟩
           ·obtain rfl := bf c109; rw [if_neg (show ¬ (false = true) by decide)] at H
            by_cases c131 : t959 = 0
            ·rw [if_pos c131] at H; have c131b0 : (t959 == 0) = true := beq_iff_eq.mpr c131; have c131b1 : (t959 != 0) = false := bne_eq_false_iff_eq.mpr c131; clear c131; obtain ⟨t961, A132, H⟩ := ob H; obtain rfl := Option.some.inj H; have hnb133 := NB931_930.out; have hnc133 := NB930_931.out; have hnb134 := NB931_932.out; have hnc134 := NB932_931.out; have hnb135 := NB931_944.out; have hnc135 := NB944_931.out; have hnb136 := NB931_948.out; have hnc136 := NB948_931.out; have hnb137 := NB931_952.out; have hnc137 := NB952_931.out; obtain ⟨hcz138_0, hcz138_1, hcz138_2, hfz138_0, hfz138_1, hfz138_2⟩ := xc3 BK931; have hnb139 := NB932_930.out; have hnc139 := NB930_932.out; have hnb140 := NB932_944.out; have hnc140 := NB944_932.out; have hnb141 := NB932_948.out; have hnc141 := NB948_932.out; have hnb142 := NB932_952.out; have hnc142 := NB952_932.out; obtain ⟨hcz143_0, hcz143_1, hfz143_0, hfz143_1⟩ := xc2 BK932; obtain ⟨Ao144, co144, eo144⟩ := Kd.R_slice HO_7.out; subst eo144
             go_wp2_with (first | ((with_reducible refine gate_callee (f := 32) rfl ?_); refine zC 103 Try.func32 #[.slice Ao144 t935.length co144, .int .i64 a0_1, .int .i64 a0_2, .agg #[.int .i64 a0_5, .int .i64 a0_6]] ?_; (with_reducible refine (edit_Media.calls _ _ t935 a0_1 a0_2 a0_5 a0_6 t956 t957 false t959 _ ?side1 ?side2 A108.out).mono ?_); (case side1 => exact cr HO_7); (case side2 => exact (Kd.R_reads' HO_7.out).2.1); rintro e w145 ⟨rfl, hb⟩; refine ⟨_, rfl, ?_⟩; replace HO_7 := Aside0.mk (Kd.R_below (rz HO_7) hb); replace BK930 := kb BK930 hb; replace BK931 := kb BK931 hb; replace BK932 := kb BK932 hb; replace BK944 := kb BK944 hb; replace BK948 := kb BK948 hb; replace BK952 := kb BK952 hb; replace HB := bp hb; clear hb) | ((with_reducible refine gate_dst (N := 17) rfl ?_); refine zB 17 37 #[.int .i64 0, .int .i64 0] ?_; intro gb960 hg w146 hbox hb; replace HO_7 := Aside0.mk (Kd.R_below (rz HO_7) hb); have BK960 := Aside0.mk hbox; have GW960 := gz hg; have GE960 := gz hg; replace HB := bp hb; have NB930_960 := Aside0.mk ((by rw [hg]; exact Nat.ne_of_lt (bl BK930) : gb930 ≠ gb960)); have NB960_930 := Aside0.mk ((by rw [hg]; exact Nat.ne_of_gt (bl BK930) : gb960 ≠ gb930)); replace BK930 := kb BK930 hb; have NB931_960 := Aside0.mk ((by rw [hg]; exact Nat.ne_of_lt (bl BK931) : gb931 ≠ gb960)); have NB960_931 := Aside0.mk ((by rw [hg]; exact Nat.ne_of_gt (bl BK931) : gb960 ≠ gb931)); replace BK931 := kb BK931 hb; have NB932_960 := Aside0.mk ((by rw [hg]; exact Nat.ne_of_lt (bl BK932) : gb932 ≠ gb960)); have NB960_932 := Aside0.mk ((by rw [hg]; exact Nat.ne_of_gt (bl BK932) : gb960 ≠ gb932)); replace BK932 := kb BK932 hb; have NB944_960 := Aside0.mk ((by rw [hg]; exact Nat.ne_of_lt (bl BK944) : gb944 ≠ gb960)); have NB960_944 := Aside0.mk ((by rw [hg]; exact Nat.ne_of_gt (bl BK944) : gb960 ≠ gb944)); replace BK944 := kb BK944 hb; have NB948_960 := Aside0.mk ((by rw [hg]; exact Nat.ne_of_lt (bl BK948) : gb948 ≠ gb960)); have NB960_948 := Aside0.mk ((by rw [hg]; exact Nat.ne_of_gt (bl BK948) : gb960 ≠ gb948)); replace BK948 := kb BK948 hb; have NB952_960 := Aside0.mk ((by rw [hg]; exact Nat.ne_of_lt (bl BK952) : gb952 ≠ gb960)); have NB960_952 := Aside0.mk ((by rw [hg]; exact Nat.ne_of_gt (bl BK952) : gb960 ≠ gb952)); replace BK952 := kb BK952 hb; clear hb hbox hg; have hnb147 := NB960_930.out; have hnc147 := NB930_960.out; have hnb148 := NB960_931.out; have hnc148 := NB931_960.out; have hnb149 := NB960_932.out; have hnc149 := NB932_960.out; have hnb150 := NB960_944.out; have hnc150 := NB944_960.out; have hnb151 := NB960_948.out; have hnc151 := NB948_960.out; have hnb152 := NB960_952.out; have hnc152 := NB952_960.out; obtain ⟨hcz153_0, hcz153_1, hfz153_0, hfz153_1⟩ := xc2 BK960) | (go_at_call 20; (with_reducible refine (dioramalaw10_awake.calls kj80  t961 _ A132.out).mono ?_); rintro e w154 ⟨rfl, hb⟩; replace HO_7 := Aside0.mk (Kd.R_below (by (with_reducible repeat (first | apply Kd.R_alloc | apply Kd.R_drewN | apply Kd.R_drew)); exact (Kd.R_mono (Kd.R_far (p := ⟨gb960, 1, none⟩) (Kd.R_far (p := ⟨gb960, 0, none⟩) (Kd.R_types HO_7.out BK960.out (by decide)) (fun _ hk => hk.2) (.int .i64 t956)) (fun _ hk => hk.2) (.int .i64 t957)) (fun _ h_ => h_.1))) hb); replace BK930 := Aside0.mk (blk_below (g := gb930) (o := .cells #[.slice A0_0 l0_0.length c0_0, .int .i64 a0_1, .int .i64 a0_2, .int .i64 a0_3, .int .i64 a0_4, .int .i64 a0_5, .int .i64 a0_6] 53 (0, 0)) (by (with_reducible repeat (first | refine blk_drewN ?_ _ | refine blk_drew ?_ | refine blk_alloc ?_ _)); refine blk_far ?_ NB930_960.out _; (with_reducible repeat (first | refine blk_drewN ?_ _ | refine blk_drew ?_ | refine blk_alloc ?_ _)); refine blk_far ?_ NB930_960.out _; (with_reducible repeat (first | refine blk_drewN ?_ _ | refine blk_drew ?_ | refine blk_alloc ?_ _)); exact BK930.out) hb); replace BK931 := Aside0.mk (blk_below (g := gb931) (o := .cells #[.slice A0_0 l0_0.length c0_0, .int .i64 a0_1, .int .i64 a0_2] 24 (0, 0)) (by (with_reducible repeat (first | refine blk_drewN ?_ _ | refine blk_drew ?_ | refine blk_alloc ?_ _)); refine blk_far ?_ NB931_960.out _; (with_reducible repeat (first | refine blk_drewN ?_ _ | refine blk_drew ?_ | refine blk_alloc ?_ _)); refine blk_far ?_ NB931_960.out _; (with_reducible repeat (first | refine blk_drewN ?_ _ | refine blk_drew ?_ | refine blk_alloc ?_ _)); exact BK931.out) hb); replace BK932 := Aside0.mk (blk_below (g := gb932) (o := .cells #[.int .i64 a0_5, .int .i64 a0_6] 37 (0, 0)) (by (with_reducible repeat (first | refine blk_drewN ?_ _ | refine blk_drew ?_ | refine blk_alloc ?_ _)); refine blk_far ?_ NB932_960.out _; (with_reducible repeat (first | refine blk_drewN ?_ _ | refine blk_drew ?_ | refine blk_alloc ?_ _)); refine blk_far ?_ NB932_960.out _; (with_reducible repeat (first | refine blk_drewN ?_ _ | refine blk_drew ?_ | refine blk_alloc ?_ _)); exact BK932.out) hb); replace BK944 := Aside0.mk (blk_below (g := gb944) (o := .cells #[.int .i64 t941, .int .i64 t942] 37 (0, 0)) (by (with_reducible repeat (first | refine blk_drewN ?_ _ | refine blk_drew ?_ | refine blk_alloc ?_ _)); refine blk_far ?_ NB944_960.out _; (with_reducible repeat (first | refine blk_drewN ?_ _ | refine blk_drew ?_ | refine blk_alloc ?_ _)); refine blk_far ?_ NB944_960.out _; (with_reducible repeat (first | refine blk_drewN ?_ _ | refine blk_drew ?_ | refine blk_alloc ?_ _)); exact BK944.out) hb); replace BK948 := Aside0.mk (blk_below (g := gb948) (o := .cells #[.int .i64 t945, .int .i64 t946] 37 (0, 0)) (by (with_reducible repeat (first | refine blk_drewN ?_ _ | refine blk_drew ?_ | refine blk_alloc ?_ _)); refine blk_far ?_ NB948_960.out _; (with_reducible repeat (first | refine blk_drewN ?_ _ | refine blk_drew ?_ | refine blk_alloc ?_ _)); refine blk_far ?_ NB948_960.out _; (with_reducible repeat (first | refine blk_drewN ?_ _ | refine blk_drew ?_ | refine blk_alloc ?_ _)); exact BK948.out) hb); replace BK952 := Aside0.mk (blk_below (g := gb952) (o := .cells #[.int .i64 t949, .int .i64 t950] 37 (0, 0)) (by (with_reducible repeat (first | refine blk_drewN ?_ _ | refine blk_drew ?_ | refine blk_alloc ?_ _)); refine blk_far ?_ NB952_960.out _; (with_reducible repeat (first | refine blk_drewN ?_ _ | refine blk_drew ?_ | refine blk_alloc ?_ _)); refine blk_far ?_ NB952_960.out _; (with_reducible repeat (first | refine blk_drewN ?_ _ | refine blk_drew ?_ | refine blk_alloc ?_ _)); exact BK952.out) hb); replace BK960 := Aside0.mk (blk_below (g := gb960) (o := .cells #[.int .i64 t956, .int .i64 t957] 37 (0, 0)) (by (with_reducible repeat (first | refine blk_drewN ?_ _ | refine blk_drew ?_ | refine blk_alloc ?_ _)); refine blk_put (cs := #[.int .i64 t956, .int .i64 0]) ?_ 1 _ rfl; (with_reducible repeat (first | refine blk_drewN ?_ _ | refine blk_drew ?_ | refine blk_alloc ?_ _)); refine blk_put (cs := #[.int .i64 0, .int .i64 0]) ?_ 0 _ rfl; (with_reducible repeat (first | refine blk_drewN ?_ _ | refine blk_drew ?_ | refine blk_alloc ?_ _)); exact BK960.out) hb); replace HB := bp hb; clear hb))
             go_ret
             exact ⟨ez, bz⟩
            ·rw [if_neg c131] at H; have c131b0 : (t959 == 0) = false := beq_eq_false_iff_ne.mpr c131; have c131b1 : (t959 != 0) = true := bne_iff_ne.mpr c131; obtain rfl := Option.some.inj H; have hnb155 := NB931_930.out; have hnc155 := NB930_931.out; have hnb156 := NB931_932.out; have hnc156 := NB932_931.out; have hnb157 := NB931_944.out; have hnc157 := NB944_931.out; have hnb158 := NB931_948.out; have hnc158 := NB948_931.out; have hnb159 := NB931_952.out; have hnc159 := NB952_931.out; obtain ⟨hcz160_0, hcz160_1, hcz160_2, hfz160_0, hfz160_1, hfz160_2⟩ := xc3 BK931; have hnb161 := NB932_930.out; have hnc161 := NB930_932.out; have hnb162 := NB932_944.out; have hnc162 := NB944_932.out; have hnb163 := NB932_948.out; have hnc163 := NB948_932.out; have hnb164 := NB932_952.out; have hnc164 := NB952_932.out; obtain ⟨hcz165_0, hcz165_1, hfz165_0, hfz165_1⟩ := xc2 BK932; obtain ⟨Ao166, co166, eo166⟩ := Kd.R_slice HO_7.out; subst eo166
             go_wp2_with (first | ((with_reducible refine gate_callee (f := 32) rfl ?_); refine zC 103 Try.func32 #[.slice Ao166 t935.length co166, .int .i64 a0_1, .int .i64 a0_2, .agg #[.int .i64 a0_5, .int .i64 a0_6]] ?_; (with_reducible refine (edit_Media.calls _ _ t935 a0_1 a0_2 a0_5 a0_6 t956 t957 false t959 _ ?side1 ?side2 A108.out).mono ?_); (case side1 => exact cr HO_7); (case side2 => exact (Kd.R_reads' HO_7.out).2.1); rintro e w167 ⟨rfl, hb⟩; refine ⟨_, rfl, ?_⟩; replace HO_7 := Aside0.mk (Kd.R_below (rz HO_7) hb); replace BK930 := kb BK930 hb; replace BK931 := kb BK931 hb; replace BK932 := kb BK932 hb; replace BK944 := kb BK944 hb; replace BK948 := kb BK948 hb; replace BK952 := kb BK952 hb; replace HB := bp hb; clear hb) | ((with_reducible refine gate_dst (N := 17) rfl ?_); refine zB 17 37 #[.int .i64 0, .int .i64 0] ?_; intro gb960 hg w168 hbox hb; replace HO_7 := Aside0.mk (Kd.R_below (rz HO_7) hb); have BK960 := Aside0.mk hbox; have GW960 := gz hg; have GE960 := gz hg; replace HB := bp hb; have NB930_960 := Aside0.mk ((by rw [hg]; exact Nat.ne_of_lt (bl BK930) : gb930 ≠ gb960)); have NB960_930 := Aside0.mk ((by rw [hg]; exact Nat.ne_of_gt (bl BK930) : gb960 ≠ gb930)); replace BK930 := kb BK930 hb; have NB931_960 := Aside0.mk ((by rw [hg]; exact Nat.ne_of_lt (bl BK931) : gb931 ≠ gb960)); have NB960_931 := Aside0.mk ((by rw [hg]; exact Nat.ne_of_gt (bl BK931) : gb960 ≠ gb931)); replace BK931 := kb BK931 hb; have NB932_960 := Aside0.mk ((by rw [hg]; exact Nat.ne_of_lt (bl BK932) : gb932 ≠ gb960)); have NB960_932 := Aside0.mk ((by rw [hg]; exact Nat.ne_of_gt (bl BK932) : gb960 ≠ gb932)); replace BK932 := kb BK932 hb; have NB944_960 := Aside0.mk ((by rw [hg]; exact Nat.ne_of_lt (bl BK944) : gb944 ≠ gb960)); have NB960_944 := Aside0.mk ((by rw [hg]; exact Nat.ne_of_gt (bl BK944) : gb960 ≠ gb944)); replace BK944 := kb BK944 hb; have NB948_960 := Aside0.mk ((by rw [hg]; exact Nat.ne_of_lt (bl BK948) : gb948 ≠ gb960)); have NB960_948 := Aside0.mk ((by rw [hg]; exact Nat.ne_of_gt (bl BK948) : gb960 ≠ gb948)); replace BK948 := kb BK948 hb; have NB952_960 := Aside0.mk ((by rw [hg]; exact Nat.ne_of_lt (bl BK952) : gb952 ≠ gb960)); have NB960_952 := Aside0.mk ((by rw [hg]; exact Nat.ne_of_gt (bl BK952) : gb960 ≠ gb952)); replace BK952 := kb BK952 hb; clear hb hbox hg; have hnb169 := NB960_930.out; have hnc169 := NB930_960.out; have hnb170 := NB960_931.out; have hnc170 := NB931_960.out; have hnb171 := NB960_932.out; have hnc171 := NB932_960.out; have hnb172 := NB960_944.out; have hnc172 := NB944_960.out; have hnb173 := NB960_948.out; have hnc173 := NB948_960.out; have hnb174 := NB960_952.out; have hnc174 := NB952_960.out; obtain ⟨hcz175_0, hcz175_1, hfz175_0, hfz175_1⟩ := xc2 BK960))
             go_ret
             exact ⟨ez, bz⟩
          ·obtain rfl := bf c107; rw [if_neg (show ¬ (false = true) by decide)] at H; obtain ⟨t962, A176, H⟩ := ob H
           by_cases c177 : t962 = true
           ·subst c177; rw [if_pos rfl] at H; obtain ⟨t963, A178, H⟩ := ob H; obtain rfl := Option.some.inj H; have hnb179 := NB931_930.out; have hnc179 := NB930_931.out; have hnb180 := NB931_932.out; have hnc180 := NB932_931.out; have hnb181 := NB931_944.out; have hnc181 := NB944_931.out; have hnb182 := NB931_948.out; have hnc182 := NB948_931.out; have hnb183 := NB931_952.out; have hnc183 := NB952_931.out; obtain ⟨hcz184_0, hcz184_1, hcz184_2, hfz184_0, hfz184_1, hfz184_2⟩ := xc3 BK931; obtain ⟨Ao185, co185, eo185⟩ := Kd.R_slice HO_7.out; subst eo185; have hnb186 := NB932_930.out; have hnc186 := NB930_932.out; have hnb187 := NB932_944.out; have hnc187 := NB944_932.out; have hnb188 := NB932_948.out; have hnc188 := NB948_932.out; have hnb189 := NB932_952.out; have hnc189 := NB952_932.out; obtain ⟨hcz190_0, hcz190_1, hfz190_0, hfz190_1⟩ := xc2 BK932; have hnb191 := NB948_930.out; have hnc191 := NB930_948.out; have hnb192 := NB948_944.out; have hnc192 := NB944_948.out; have hnb193 := NB948_952.out; have hnc193 := NB952_948.out; obtain ⟨hcz194_0, hcz194_1, hfz194_0, hfz194_1⟩ := xc2 BK948
            go_wp2_with (first | ((with_reducible refine gate_callee (f := 37) rfl ?_); refine zC 125 Try.func37 #[.agg #[.slice Ao185 t935.length co185, .int .i64 a0_1, .int .i64 a0_2], .agg #[.int .i64 a0_5, .int .i64 a0_6], .agg #[.slice A0_0 l0_0.length c0_0, .int .i64 a0_1, .int .i64 a0_2], .agg #[.int .i64 t945, .int .i64 t946]] ?_; (with_reducible refine (dioramalaw10_shows.calls _ _ t935 a0_1 a0_2 a0_5 a0_6 _ _ l0_0 a0_1 a0_2 t945 t946 true _ ?side1 ?side2 ?side3 ?side4 A176.out).mono ?_); (case side1 => exact cr HO_7); (case side2 => exact (Kd.R_reads' HO_7.out).2.1); (case side3 => exact cz HR0_0); (case side4 => exact HC0_0.out); rintro e w195 ⟨rfl, hb⟩; refine ⟨_, rfl, ?_⟩; replace HO_7 := Aside0.mk (Kd.R_below (rz HO_7) hb); replace BK930 := kb BK930 hb; replace BK931 := kb BK931 hb; replace BK932 := kb BK932 hb; replace BK944 := kb BK944 hb; replace BK948 := kb BK948 hb; replace BK952 := kb BK952 hb; replace HB := bp hb; clear hb) | (go_at_call 20; (with_reducible refine (dioramalaw10_awake.calls kj80  t963 _ A178.out).mono ?_); rintro e w196 ⟨rfl, hb⟩; replace HO_7 := Aside0.mk (Kd.R_below (rz HO_7) hb); replace BK930 := kb BK930 hb; replace BK931 := kb BK931 hb; replace BK932 := kb BK932 hb; replace BK944 := kb BK944 hb; replace BK948 := kb BK948 hb; replace BK952 := kb BK952 hb; replace HB := bp hb; clear hb))
            go_ret
            exact ⟨ez, bz⟩
           ·obtain rfl := bf c177; rw [if_neg (show ¬ (false = true) by decide)] at H; obtain rfl := Option.some.inj H; have hnb197 := NB931_930.out; have hnc197 := NB930_931.out; have hnb198 := NB931_932.out; have hnc198 := NB932_931.out; have hnb199 := NB931_944.out; have hnc199 := NB944_931.out; have hnb200 := NB931_948.out; have hnc200 := NB948_931.out; have hnb201 := NB931_952.out; have hnc201 := NB952_931.out; obtain ⟨hcz202_0, hcz202_1, hcz202_2, hfz202_0, hfz202_1, hfz202_2⟩ := xc3 BK931; obtain ⟨Ao203, co203, eo203⟩ := Kd.R_slice HO_7.out; subst eo203; have hnb204 := NB932_930.out; have hnc204 := NB930_932.out; have hnb205 := NB932_944.out; have hnc205 := NB944_932.out; have hnb206 := NB932_948.out; have hnc206 := NB948_932.out; have hnb207 := NB932_952.out; have hnc207 := NB952_932.out; obtain ⟨hcz208_0, hcz208_1, hfz208_0, hfz208_1⟩ := xc2 BK932; have hnb209 := NB948_930.out; have hnc209 := NB930_948.out; have hnb210 := NB948_944.out; have hnc210 := NB944_948.out; have hnb211 := NB948_952.out; have hnc211 := NB952_948.out; obtain ⟨hcz212_0, hcz212_1, hfz212_0, hfz212_1⟩ := xc2 BK948
            go_wp2_with (first | ((with_reducible refine gate_callee (f := 37) rfl ?_); refine zC 125 Try.func37 #[.agg #[.slice Ao203 t935.length co203, .int .i64 a0_1, .int .i64 a0_2], .agg #[.int .i64 a0_5, .int .i64 a0_6], .agg #[.slice A0_0 l0_0.length c0_0, .int .i64 a0_1, .int .i64 a0_2], .agg #[.int .i64 t945, .int .i64 t946]] ?_; (with_reducible refine (dioramalaw10_shows.calls _ _ t935 a0_1 a0_2 a0_5 a0_6 _ _ l0_0 a0_1 a0_2 t945 t946 false _ ?side1 ?side2 ?side3 ?side4 A176.out).mono ?_); (case side1 => exact cr HO_7); (case side2 => exact (Kd.R_reads' HO_7.out).2.1); (case side3 => exact cz HR0_0); (case side4 => exact HC0_0.out); rintro e w213 ⟨rfl, hb⟩; refine ⟨_, rfl, ?_⟩; replace HO_7 := Aside0.mk (Kd.R_below (rz HO_7) hb); replace BK930 := kb BK930 hb; replace BK931 := kb BK931 hb; replace BK932 := kb BK932 hb; replace BK944 := kb BK944 hb; replace BK948 := kb BK948 hb; replace BK952 := kb BK952 hb; replace HB := bp hb; clear hb))
            go_ret
            exact ⟨ez, bz⟩
end Go.Proofs.Ytpbhepdgamoiaaa.E

namespace Go.Proofs.Ytpbhepdgamoiaaa.Ph
open Go.RowKit Go Go.Proofs.YtpbhepdgamoiaaaW.PrintWords Go.Proofs.YtpbhepdgamoiaaaW.PrintLast Go.Proofs.YtpbhepdgamoiaaaW.PrintMore Go.Proofs.Ytpbhepdgamoiaaa.Mn Go.Proofs.Ytpbhepdgamoiaaa.Rf Go.Proofs.Ytpbhepdgamoiaaa.Er Go.Proofs.Ytpbhepdgamoiaaa.Ek Go.Proofs.Ytpbhepdgamoiaaa.E Go.Proofs.Ytpbhepdgamoiaaa.Pe Go.Proofs.Ytpbhepdgamoiaaa.Pf Go.Proofs.Ytpbhepdgamoiaaa.Pg
set_option linter.unusedVariables false
set_option linter.unusedSimpArgs false
end Go.Proofs.Ytpbhepdgamoiaaa.Ph
namespace Go.Proofs.Ytpbhepdgamoiaaa.Nm
open Go.RowKit Go Go.Proofs.Ytpbhepdgamoiaaa.Rf Go.Proofs.Ytpbhepdgamoiaaa.Er Go.Proofs.Ytpbhepdgamoiaaa.Ek Go.Proofs.Ytpbhepdgamoiaaa.Et Go.Proofs.Ytpbhepdgamoiaaa.E Go.Proofs.Ytpbhepdgamoiaaa.Pe Go.Proofs.Ytpbhepdgamoiaaa.Pf Go.Proofs.Ytpbhepdgamoiaaa.Qr Go.Proofs.Ytpbhepdgamoiaaa.Qn Go.Proofs.Ytpbhepdgamoiaaa.Qw
set_option linter.unusedVariables false
set_option linter.unusedSimpArgs false
theorem qq_lt1 {a b c : Int} (hc : 0 < c) : qq a c < qq b c ↔ a < b := by
 rw [qq_lt hc hc]
 exact ⟨fun h => Int.lt_of_mul_lt_mul_right h (by omega), fun h => Int.mul_lt_mul_of_pos_right h hc⟩
theorem qq_le1 {a b c : Int} (hc : 0 < c) : qq a c ≤ qq b c ↔ a ≤ b := by
 rw [← Rat.not_lt, qq_lt1 hc]
 omega
theorem qq_add1 {a b c : Int} (hc : c ≠ 0) : qq (a + b) c = qq a c + qq b c := by
 unfold qq
 rw [Rat.divInt_add_divInt _ _ hc hc, ← Int.add_mul, Rat.divInt_mul_right hc]
theorem qq_lo (n e : Int) : qq (qq n e).num ((qq n e).den : Int) = qq n e := Rat.num_divInt_den _
theorem qq_zero (e : Int) : qq 0 e = 0 := by
 unfold qq
 simp
theorem qq_split {m t : Int} (ht : t ≠ 0) : qq m 1 = qq m t * qq t 1 := by
 unfold qq
 rw [Rat.divInt_mul_divInt, Int.mul_comm m t, Int.mul_one]
 conv => rhs; rw [show t = t * 1 by omega, Int.mul_assoc, Int.one_mul]
 rw [Rat.divInt_mul_left ht]
theorem qq_ne {t : Int} (ht : t ≠ 0) : qq t 1 ≠ 0 := by
 rw [qq_one]
 exact fun h => ht (by exact_mod_cast h)
theorem lt_le {a b c : Rat} (h : a < b) (h2 : b ≤ c) : a < c := Rat.not_le.1 fun h3 => Rat.not_le.2 h (Rat.le_trans h2 h3)
abbrev noV : (Int × Int) × Bool × Int := ((0, 1), false, 0)
def shV (ts : Int) (x : Ed) (p : Rat) : (Int × Int) × Bool × Int := if x.f1 < 0 then noV else ((tmV (qq x.f1 ts + p * qq x.f2 x.f3)).1, (tmV (qq x.f1 ts + p * qq x.f2 x.f3)).2 == 0, (tmV (qq x.f1 ts + p * qq x.f2 x.f3)).2)
theorem med_cons (ms ts : Int) (q : Rat) (b : Int) (x : Ed) (t : List Ed) : medL ms ts q b (x :: t) = if q < qq b ms then medL ms ts q (b + x.f0) t else if q < qq (b + x.f0) ms then shV ts x (q - qq b ms) else medL ms ts q (b + x.f0) t := rfl
theorem med_low {ms ts : Int} (hm : 0 < ms) {q : Rat} : ∀ (l : List Ed) (b : Int), (∀ x ∈ l, 0 ≤ x.f0) → q < qq b ms → medL ms ts q b l = noV
 | [], _, _, _ => rfl
 | x :: t, b, h, hq => by
  rw [med_cons, if_pos hq]
  exact med_low hm t _ (fun y hy => h y (by simp [hy])) (lt_le hq ((qq_le1 hm).2 (by have := h x (by simp); omega)))
theorem med_cong {ms ts : Int} {q : Rat} {u v : List Ed} (h : ∀ b, medL ms ts q b u = medL ms ts q b v) : ∀ (p : List Ed) (b : Int), medL ms ts q b (p ++ u) = medL ms ts q b (p ++ v)
 | [], b => h b
 | x :: t, b => by
  rw [List.cons_append, List.cons_append, med_cons, med_cons, med_cong h t]
theorem sh_low (ts : Int) (x : Ed) (p : Rat) : shV ts (lowV x) p = shV ts x p := by
 unfold shV lowV
 simp only [qq_lo]
theorem med_map {ms ts : Int} {q : Rat} : ∀ (l : List Ed) (b : Int), medL ms ts q b (l.map lowV) = medL ms ts q b l
 | [], b => rfl
 | x :: t, b => by
  rw [List.map_cons, med_cons, med_cons, sh_low]
  show (if q < qq b ms then medL ms ts q (b + x.f0) (t.map lowV) else if q < qq (b + x.f0) ms then shV ts x (q - qq b ms) else medL ms ts q (b + x.f0) (t.map lowV)) = _
  rw [med_map t]
theorem cmpQ_eq {p q : Rat} (h : cmpQ p q = 0) : p = q := by
 unfold cmpQ at h
 split at h
 ·cases h
 ·split at h
  ·cases h
  ·rename_i h1 h2
   exact Rat.le_antisymm (Rat.not_lt.1 h2) (Rat.not_lt.1 h1)
theorem ov_sh {ms ts : Int} {a e : Ed} (hm : 0 < ms) (ht : 0 < ts) (h : ovV ms ts a e = true) (p : Rat) : shV ts e p = shV ts a (p + qq a.f0 ms) := by
 unfold ovV overB kinB kB kS kN kE at h
 simp only [Bool.and_eq_true, Bool.or_eq_true, beq_iff_eq, decide_eq_decide, decide_eq_true_eq] at h
 obtain ⟨⟨h1, h2, h3, h4⟩, h5⟩ := h
 unfold shV
 by_cases hn : a.f1 < 0
 ·rw [if_pos hn, if_pos (h1.1 hn)]
 ·have hn' : ¬ e.f1 < 0 := fun h => hn (h1.2 h)
  rw [if_neg hn, if_neg hn'] at h2 h3 h4
  rw [if_neg hn, if_neg hn']
  have hq : qq e.f1 ts + p * qq e.f2 e.f3 = qq a.f1 ts + (p + qq a.f0 ms) * qq a.f2 a.f3 := by
   by_cases z : a.f2 = 0
   ·rw [if_pos z] at h2 h3 h4
    by_cases z' : e.f2 = 0
    ·rw [if_pos z'] at h2
     rw [z, z', qq_zero, qq_zero, h2]
     grind
    ·rw [if_neg z'] at h3
     exact absurd h3.symm z'
   ·rw [if_neg z] at h2 h3 h4
    by_cases z' : e.f2 = 0
    ·rw [if_pos z'] at h3
     exact absurd h3 z
    ·rw [if_neg z'] at h3 h4
     have h6 : cmpQ (afterQ ms ts a.f1 a.f2 a.f3 a.f0) (qq e.f1 1) = 0 := by
      rcases h5 with (h5 | h5) | h5
      ·exact absurd h5 hn
      ·exact absurd h5 z
      ·exact h5
     have h7 := cmpQ_eq h6
     unfold afterQ at h7
     rw [qq_split (m := a.f1) (t := ts) (by omega), qq_split (m := e.f1) (t := ts) (by omega)] at h7
     have h8 : qq e.f1 ts = qq a.f0 ms * qq a.f2 a.f3 + qq a.f1 ts := by
      have h9 := qq_ne (t := ts) (by omega)
      generalize qq ts 1 = T at h7 h9
      have : (qq a.f0 ms * qq a.f2 a.f3 + qq a.f1 ts - qq e.f1 ts) * T = 0 := by grind
      rcases Rat.mul_eq_zero.1 this with h | h
      ·grind
      ·exact absurd h h9
     rw [h8, ← h3, ← h4]
     grind
  rw [hq]
theorem med_two {ms ts : Int} {q : Rat} {a e : Ed} {t : List Ed} (hm : 0 < ms) (ht : 0 < ts) (ha : 0 ≤ a.f0) (he : 0 ≤ e.f0) (h : ovV ms ts a e = true) (b : Int) : medL ms ts q b (⟨a.f0 + e.f0, a.f1, a.f2, a.f3⟩ :: t) = medL ms ts q b (a :: e :: t) := by
 rw [med_cons, med_cons, med_cons]
 have l1 := (qq_le1 (a := b) (b := b + a.f0) hm).2 (by omega)
 have l2 := (qq_le1 (a := b + a.f0) (b := b + a.f0 + e.f0) hm).2 (by omega)
 have hs : ∀ p, shV ts (⟨a.f0 + e.f0, a.f1, a.f2, a.f3⟩ : Ed) p = shV ts a p := fun p => rfl
 rw [hs]
 show (if q < qq b ms then medL ms ts q (b + (a.f0 + e.f0)) t else if q < qq (b + (a.f0 + e.f0)) ms then shV ts a (q - qq b ms) else medL ms ts q (b + (a.f0 + e.f0)) t) = _
 rw [← Int.add_assoc]
 by_cases c1 : q < qq b ms
 ·rw [if_pos c1, if_pos c1, if_pos (lt_le c1 l1)]
 ·rw [if_neg c1, if_neg c1]
  by_cases c2 : q < qq (b + a.f0) ms
  ·rw [if_pos c2, if_pos (lt_le c2 l2)]
  ·rw [if_neg c2, if_neg c2]
   by_cases c3 : q < qq (b + a.f0 + e.f0) ms
   ·rw [if_pos c3, if_pos c3, ov_sh hm ht h]
    congr 1
    rw [qq_add1 (by omega)]
    grind
   ·rw [if_neg c3, if_neg c3]
theorem push_med {ms ts : Int} {q : Rat} (hm : 0 < ms) (ht : 0 < ts) {out : List Ed} {e : Ed} (h : ∀ x ∈ out, Wd x) (he : Wd e) (t : List Ed) (b : Int) : medL ms ts q b ((push ms ts out e).reverse ++ t) = medL ms ts q b (out.reverse ++ e :: t) := by
 cases out with
 | nil => rfl
 | cons a o =>
  have ha := (h a (by simp)).d0
  have hd := he.d0
  simp only [push]
  split
  ·rename_i ho
   simp only [List.reverse_cons, List.append_assoc, List.singleton_append]
   exact med_cong (fun b' => med_two hm ht (by omega) (by omega) ho b') _ b
  ·simp only [List.reverse_cons, List.append_assoc, List.singleton_append, List.cons_append, List.nil_append]
theorem nrmR_med {ms ts : Int} {q : Rat} (hm : 0 < ms) (ht : 0 < ts) : ∀ (l out : List Ed) (b : Int), (∀ x ∈ out, Wd x) → (∀ x ∈ l, Vd x) → medL ms ts q b (nrmR ms ts out l).reverse = medL ms ts q b (out.reverse ++ l.map lowV)
 | [], out, b, _, _ => by simp [nrmR]
 | x :: t, out, b, h, hV => by
  have hw := wd_low (hV x (by simp))
  have hn : nrmR ms ts out (x :: t) = nrmR ms ts (push ms ts out (lowV x)) t := rfl
  rw [hn, nrmR_med hm ht t _ b (push_wd h hw) (fun y hy => hV y (by simp [hy])), push_med hm ht h hw]
  rfl
theorem nrm_med {ms ts : Int} {q : Rat} (hc : Ck ms ts) {l : List Ed} (hV : ∀ x ∈ l, Vd x) (b : Int) : medL ms ts q b (nrm ms ts l) = medL ms ts q b l := by
 unfold nrm
 rw [nrmR_med (by have := hc.m0; omega) (by have := hc.t0; omega) l [] b (by simp) hV]
 exact med_map l b
def Em1 (x : Ed) : Prop := x.f1 < 0 → x.f2 = 1 ∧ x.f3 = 1
theorem em_low {x : Ed} (h : Em1 x) : Em1 (lowV x) := by
 intro hm
 have := h hm
 unfold lowV
 simp only
 rw [this.1, this.2]
 decide
theorem push_em {ms ts : Int} {out : List Ed} {e : Ed} (h : ∀ x ∈ out, Em1 x) (he : Em1 e) : ∀ x ∈ push ms ts out e, Em1 x := by
 cases out with
 | nil => simpa [push] using he
 | cons a t =>
  have ha := h a (by simp)
  simp only [push]
  split
  ·intro x hx
   simp only [List.mem_cons] at hx
   rcases hx with rfl | hx
   ·exact ha
   ·exact h x (by simp [hx])
  ·intro x hx
   simp only [List.mem_cons] at hx
   rcases hx with rfl | hx
   ·exact he
   ·exact h x (by simpa using hx)
theorem nrmR_wd {ms ts : Int} : ∀ (l out : List Ed), (∀ x ∈ out, Wd x ∧ Em1 x) → (∀ x ∈ l, Vd x) → ∀ x ∈ nrmR ms ts out l, Wd x ∧ Em1 x
 | [], out, h, _ => h
 | x :: t, out, h, hV => by
  have hx := hV x (by simp)
  have hn : nrmR ms ts out (x :: t) = nrmR ms ts (push ms ts out (lowV x)) t := rfl
  rw [hn]
  refine nrmR_wd t _ (fun y hy => ⟨push_wd (fun z hz => (h z hz).1) (wd_low hx) y hy, push_em (fun z hz => (h z hz).2) (em_low hx.em) y hy⟩) (fun y hy => hV y (by simp [hy]))
theorem le_sum : ∀ (l : List Ed), (∀ x ∈ l, Wd x) → ∀ x ∈ l, x.f0 ≤ sumD l
 | [], _, x, hx => by cases hx
 | y :: t, h, x, hx => by
  have h0 := (h y (by simp)).d0
  have hs := wd_sum (l := t) (fun z hz => h z (by simp [hz]))
  simp only [sumD]
  rcases List.mem_cons.1 hx with rfl | hx
  ·omega
  ·have := le_sum t (fun z hz => h z (by simp [hz])) x hx
   omega
theorem nrm_vd {ms ts : Int} {l : List Ed} (hV : ∀ x ∈ l, Vd x) (hs : sumD l ≤ 1099511627776) : ∀ x ∈ nrm ms ts l, Vd x := by
 have h := nrmR_wd (ms := ms) (ts := ts) l [] (by simp) hV
 have h1 : ∀ x ∈ nrm ms ts l, Wd x ∧ Em1 x := fun x hx => h x (List.mem_reverse.1 hx)
 have h2 := le_sum (nrm ms ts l) (fun x hx => (h1 x hx).1)
 rw [nrm_sum] at h2
 intro x hx
 have hw := (h1 x hx).1
 have := h2 x hx
 exact ⟨hw.d0, by omega, hw.m0, hw.m1, hw.n0, hw.n1, hw.e0, hw.e1, (h1 x hx).2⟩
theorem nrmV_ok {ms ts : Int} (hc : Ck ms ts) {l : List Ed} (hV : ∀ x ∈ l, Vd x) (h : (nrmV ms ts l).2 = 0) : nrmV ms ts l = (nrm ms ts l, 0) ∧ chk (nrm ms ts l) ms ts = 0 ∧ sumD l ≤ 1099511627776 := by
 unfold nrmV at h ⊢
 by_cases h1 : 1099511627776 < sumD l
 ·rw [if_pos h1] at h
  cases h
 ·rw [if_neg h1] at h ⊢
  unfold fin at h ⊢
  by_cases h2 : 20 < (nrmR ms ts [] l).length
  ·rw [if_pos h2] at h
   cases h
  ·rw [if_neg h2]
   refine ⟨rfl, chk_ok.2 ⟨hc, ?_, nrm_vd hV (by omega), ?_⟩, by omega⟩
   ·unfold nrm
    rw [List.length_reverse]
    omega
   ·rw [nrm_sum]
    omega
end Go.Proofs.Ytpbhepdgamoiaaa.Nm
namespace Go.Proofs.Ytpbhepdgamoiaaa.Qe
open Go.RowKit Go Go.Proofs.YtpbhepdgamoiaaaW.PrintWords Go.Proofs.YtpbhepdgamoiaaaW.PrintLast Go.Proofs.YtpbhepdgamoiaaaW.PrintMore Go.Proofs.Ytpbhepdgamoiaaa.Mn Go.Proofs.Ytpbhepdgamoiaaa.Er Go.Proofs.Ytpbhepdgamoiaaa.Ek Go.Proofs.Ytpbhepdgamoiaaa.E Go.Proofs.Ytpbhepdgamoiaaa.Pe Go.Proofs.Ytpbhepdgamoiaaa.Pf Go.Proofs.Ytpbhepdgamoiaaa.Pg
set_option linter.unusedVariables false
set_option linter.unusedSimpArgs false
end Go.Proofs.Ytpbhepdgamoiaaa.Qe
namespace Go.Proofs.Ytpbhepdgamoiaaa.Fr
open Go.RowKit Go Go.Proofs.YtpbhepdgamoiaaaW.PrintWords Go.Proofs.YtpbhepdgamoiaaaW.PrintLast Go.Proofs.YtpbhepdgamoiaaaW.PrintMore Go.Proofs.Ytpbhepdgamoiaaa.Mn Go.Proofs.Ytpbhepdgamoiaaa.Rf Go.Proofs.Ytpbhepdgamoiaaa.Er Go.Proofs.Ytpbhepdgamoiaaa.Ek Go.Proofs.Ytpbhepdgamoiaaa.E Go.Proofs.Ytpbhepdgamoiaaa.Pe Go.Proofs.Ytpbhepdgamoiaaa.Pf Go.Proofs.Ytpbhepdgamoiaaa.Pg Go.Proofs.Ytpbhepdgamoiaaa.Qr Go.Proofs.Ytpbhepdgamoiaaa.Qn Go.Proofs.Ytpbhepdgamoiaaa.Qo Go.Proofs.Ytpbhepdgamoiaaa.Qp Go.Proofs.Ytpbhepdgamoiaaa.Qe Go.Proofs.Ytpbhepdgamoiaaa.Qw Go.Proofs.Ytpbhepdgamoiaaa.Oe
set_option linter.unusedVariables false
set_option linter.unusedSimpArgs false
structure Rt (num den : Int) : Prop where
 n0 : 1 ≤ num
 n1 : num ≤ 1000
 d0 : 1 ≤ den
 d1 : den ≤ 1000
theorem len_step (pre : List Ed) (x : Ed) (h : pre.length ≤ 1000000) : wrap64 ((pre.length : Int) + 1) = ((pre ++ [x]).length : Int) := by rw [w64 (by omega) (by omega)]; simp
end Go.Proofs.Ytpbhepdgamoiaaa.Fr
namespace Go.Proofs.Ytpbhepdgamoiaaa.Cl
open Go.RowKit Go Go.Proofs.YtpbhepdgamoiaaaW.PrintWords Go.Proofs.YtpbhepdgamoiaaaW.PrintLast Go.Proofs.YtpbhepdgamoiaaaW.PrintMore Go.Proofs.Ytpbhepdgamoiaaa.Mn Go.Proofs.Ytpbhepdgamoiaaa.Rf Go.Proofs.Ytpbhepdgamoiaaa.Er Go.Proofs.Ytpbhepdgamoiaaa.Ek Go.Proofs.Ytpbhepdgamoiaaa.Ew Go.Proofs.Ytpbhepdgamoiaaa.E Go.Proofs.Ytpbhepdgamoiaaa.Pe Go.Proofs.Ytpbhepdgamoiaaa.Pf Go.Proofs.Ytpbhepdgamoiaaa.Pg Go.Proofs.Ytpbhepdgamoiaaa.Qr Go.Proofs.Ytpbhepdgamoiaaa.Qn Go.Proofs.Ytpbhepdgamoiaaa.Qo Go.Proofs.Ytpbhepdgamoiaaa.Qp Go.Proofs.Ytpbhepdgamoiaaa.Qe Go.Proofs.Ytpbhepdgamoiaaa.Qw Go.Proofs.Ytpbhepdgamoiaaa.Oe Go.Proofs.Ytpbhepdgamoiaaa.Fr
set_option linter.unusedVariables false
set_option linter.unusedSimpArgs false
def scB (a : Int) : Bool := decide (1 ≤ a) && decide (a ≤ 1000000)
theorem scale_f (a : Int) : edit_isScale.f a = some (scB a) := by
 unfold edit_isScale.f scB
 by_cases h : a ≥ 1
 ·rw [if_pos h, decide_eq_true (show 1 ≤ a from h), Bool.true_and]
 ·rw [if_neg h, decide_eq_false (show ¬ 1 ≤ a from h), Bool.false_and]
end Go.Proofs.Ytpbhepdgamoiaaa.Cl
namespace Go.Proofs.Ytpbhepdgamoiaaa.So
open Go.RowKit Go Go.Proofs.Ytpbhepdgamoiaaa.Rf Go.Proofs.Ytpbhepdgamoiaaa.Er Go.Proofs.Ytpbhepdgamoiaaa.Ek Go.Proofs.Ytpbhepdgamoiaaa.Et Go.Proofs.Ytpbhepdgamoiaaa.Ew Go.Proofs.Ytpbhepdgamoiaaa.E Go.Proofs.Ytpbhepdgamoiaaa.Pe Go.Proofs.Ytpbhepdgamoiaaa.Pf Go.Proofs.Ytpbhepdgamoiaaa.Qr Go.Proofs.Ytpbhepdgamoiaaa.Qn Go.Proofs.Ytpbhepdgamoiaaa.Qw Go.Proofs.Ytpbhepdgamoiaaa.Fr Go.Proofs.Ytpbhepdgamoiaaa.Cl Go.Proofs.Ytpbhepdgamoiaaa.Nm
set_option linter.unusedVariables false
set_option linter.unusedSimpArgs false
end Go.Proofs.Ytpbhepdgamoiaaa.So
namespace Go.Proofs.Ytpbhepdgamoiaaa.Sw
open Go.RowKit Go Go.Proofs.Ytpbhepdgamoiaaa.Rf Go.Proofs.Ytpbhepdgamoiaaa.Er Go.Proofs.Ytpbhepdgamoiaaa.Ek Go.Proofs.Ytpbhepdgamoiaaa.Et Go.Proofs.Ytpbhepdgamoiaaa.E Go.Proofs.Ytpbhepdgamoiaaa.Pe Go.Proofs.Ytpbhepdgamoiaaa.Pf Go.Proofs.Ytpbhepdgamoiaaa.Nm
set_option linter.unusedVariables false
set_option linter.unusedSimpArgs false
theorem tm_err (q : Rat) : (tmV q).2 = 0 ∨ (tmV q).2 = 2 := by
 unfold tmV
 split
 ·exact .inl rfl
 ·exact .inr rfl
theorem sh_err (ts : Int) (x : Ed) (p : Rat) : (shV ts x p).2.2 = 0 ∨ (shV ts x p).2.2 = 2 := by
 unfold shV
 split
 ·exact .inl rfl
 ·exact tm_err _
theorem med_err (ms ts : Int) (q : Rat) : ∀ (l : List Ed) (b : Int), (medL ms ts q b l).2.2 = 0 ∨ (medL ms ts q b l).2.2 = 2
 | [], b => .inl rfl
 | x :: t, b => by
  rw [med_cons]
  split
  ·exact med_err ms ts q t _
  ·split
   ·exact sh_err ts x _
   ·exact med_err ms ts q t _
theorem medV_ok {l : List Ed} {ms ts n d : Int} (h : chk l ms ts = 0) (hv : Ea.valid n d = true) : medV l ms ts n d = medL ms ts (qq n d) 0 l := by
 unfold medV
 rw [if_pos h, if_pos hv]
theorem shows_eq {l l' : List Ed} {ms ts ms' ts' n d n' d' : Int} (h : medV l ms ts n d = medV l' ms' ts' n' d') (he : (medV l ms ts n d).2.2 = 0 ∨ (medV l ms ts n d).2.2 = 2) : dioramalaw10_shows.f l ms ts n d l' ms' ts' n' d' = some true := by
 unfold dioramalaw10_shows.f edit_Media.f
 simp only [Option.bind_some]
 rw [← h]
 rcases he with he | he
 ·rw [he, if_neg (by decide), if_neg (by decide), if_pos rfl, if_pos rfl, if_pos (by simp)]
  simp
 ·rw [he, if_pos rfl]
theorem shows_f {l l' : List Ed} {ms ts ms' ts' n d n' d' : Int} (h : chk l ms ts = 0) (h' : chk l' ms' ts' = 0) (hv : Ea.valid n d = true) (hv' : Ea.valid n' d' = true) (he : medL ms ts (qq n d) 0 l = medL ms' ts' (qq n' d') 0 l') : dioramalaw10_shows.f l ms ts n d l' ms' ts' n' d' = some true := by
 refine shows_eq ?_ ?_
 ·rw [medV_ok h hv, medV_ok h' hv', he]
 ·rw [medV_ok h hv]
  exact med_err _ _ _ _ _
theorem rvalid_f (n d : Int) : dioramaref02_Valid.f n d = some (Ea.valid n d) := by
 unfold dioramaref02_Valid.f Ea.valid
 by_cases h1 : d ≥ 1
 ·rw [if_pos h1, decide_eq_true (show 1 ≤ d from h1)]
  by_cases h2 : d ≤ 1152921504606846976
  ·rw [if_pos h2, decide_eq_true h2]
   by_cases h3 : n ≥ -1152921504606846976
   ·rw [if_pos h3, decide_eq_true (show -1152921504606846976 ≤ n from h3)]
    rfl
   ·rw [if_neg h3, decide_eq_false (show ¬ -1152921504606846976 ≤ n from h3)]
    rfl
  ·rw [if_neg h2, decide_eq_false h2]
   rfl
 ·rw [if_neg h1, decide_eq_false (show ¬ 1 ≤ d from h1)]
  rfl
end Go.Proofs.Ytpbhepdgamoiaaa.Sw
namespace Go.Proofs.Ytpbhepdgamoiaaa.Ct
open Go.RowKit Go Go.Proofs.YtpbhepdgamoiaaaW.PrintWords Go.Proofs.YtpbhepdgamoiaaaW.PrintLast Go.Proofs.YtpbhepdgamoiaaaW.PrintMore Go.Proofs.Ytpbhepdgamoiaaa.Mn Go.Proofs.Ytpbhepdgamoiaaa.Rf Go.Proofs.Ytpbhepdgamoiaaa.Er Go.Proofs.Ytpbhepdgamoiaaa.Ek Go.Proofs.Ytpbhepdgamoiaaa.Et Go.Proofs.Ytpbhepdgamoiaaa.Ew Go.Proofs.Ytpbhepdgamoiaaa.E Go.Proofs.Ytpbhepdgamoiaaa.Pe Go.Proofs.Ytpbhepdgamoiaaa.Pf Go.Proofs.Ytpbhepdgamoiaaa.Pg Go.Proofs.Ytpbhepdgamoiaaa.Qr Go.Proofs.Ytpbhepdgamoiaaa.Qn Go.Proofs.Ytpbhepdgamoiaaa.Qw Go.Proofs.Ytpbhepdgamoiaaa.Fr Go.Proofs.Ytpbhepdgamoiaaa.Cl Go.Proofs.Ytpbhepdgamoiaaa.Nm Go.Proofs.Ytpbhepdgamoiaaa.So Go.Proofs.Ytpbhepdgamoiaaa.Sw
set_option linter.unusedVariables false
set_option linter.unusedSimpArgs false
def cutL (ms ts fr te : Int) : List Ed → Int → List Ed → List Ed × Int
 | out, _, [] => nrmV ms ts out
 | out, b, x :: t =>
  if mn (b + x.f0) te ≤ mx b fr then cutL ms ts fr te out (b + x.f0) t
  else if 0 ≤ x.f1 then
   (if (whV (afterQ ms ts x.f1 x.f2 x.f3 (mx b fr - b))).2 = 0 then cutL ms ts fr te (out ++ [⟨mn (b + x.f0) te - mx b fr, (whV (afterQ ms ts x.f1 x.f2 x.f3 (mx b fr - b))).1, x.f2, x.f3⟩]) (b + x.f0) t
       else ([], (whV (afterQ ms ts x.f1 x.f2 x.f3 (mx b fr - b))).2))
  else cutL ms ts fr te (out ++ [⟨mn (b + x.f0) te - mx b fr, x.f1, x.f2, x.f3⟩]) (b + x.f0) t
theorem cutL_cons (ms ts fr te : Int) (out : List Ed) (b : Int) (x : Ed) (t : List Ed) : cutL ms ts fr te out b (x :: t) =
  if mn (b + x.f0) te ≤ mx b fr then cutL ms ts fr te out (b + x.f0) t
  else if 0 ≤ x.f1 then
   (if (whV (afterQ ms ts x.f1 x.f2 x.f3 (mx b fr - b))).2 = 0 then cutL ms ts fr te (out ++ [⟨mn (b + x.f0) te - mx b fr, (whV (afterQ ms ts x.f1 x.f2 x.f3 (mx b fr - b))).1, x.f2, x.f3⟩]) (b + x.f0) t
       else ([], (whV (afterQ ms ts x.f1 x.f2 x.f3 (mx b fr - b))).2))
  else cutL ms ts fr te (out ++ [⟨mn (b + x.f0) te - mx b fr, x.f1, x.f2, x.f3⟩]) (b + x.f0) t := rfl
theorem wh_rng {q : Rat} (hq : 0 ≤ q) (h : (whV q).2 = 0) : (0 ≤ (whV q).1 ∧ (whV q).1 ≤ 1099511627776) ∧ qq (whV q).1 1 = q := by
 have hn := Rat.num_nonneg.2 hq
 unfold whV at h ⊢
 by_cases h1 : q.den = 1
 ·rw [if_pos h1] at h ⊢
  by_cases h2 : 1099511627776 < q.num
  ·rw [if_pos h2] at h
   cases h
  ·rw [if_neg h2]
   refine ⟨⟨hn, by simp only; omega⟩, ?_⟩
   have := Rat.num_divInt_den q
   rw [h1] at this
   exact this
 ·rw [if_neg h1] at h
  cases h
theorem qq_nn {a b : Int} (ha : 0 ≤ a) (hb : 0 < b) : 0 ≤ qq a b := Rat.not_lt.1 (qq_nonneg ha hb)
theorem after_nn {ms ts m n e k : Int} (hc : Ck ms ts) (hm : 0 ≤ m) (hn : 0 ≤ n) (he : 1 ≤ e) (hk : 0 ≤ k) : 0 ≤ afterQ ms ts m n e k := by
 have c0 := hc.m0
 have c2 := hc.t0
 exact Rat.add_nonneg (Rat.mul_nonneg (Rat.mul_nonneg (qq_nn hk (by omega)) (qq_nn hn (by omega))) (qq_nn (by omega) (by decide))) (qq_nn hm (by decide))
theorem after_sh {ms ts m n e k tick : Int} (hc : Ck ms ts) (h : qq tick 1 = afterQ ms ts m n e k) : qq tick ts = qq m ts + qq k ms * qq n e := by
 have c2 := hc.t0
 unfold afterQ at h
 rw [qq_split (m := m) (t := ts) (by omega), qq_split (m := tick) (t := ts) (by omega)] at h
 have h9 := qq_ne (t := ts) (by omega)
 generalize qq ts 1 = T at h h9
 have : (qq k ms * qq n e + qq m ts - qq tick ts) * T = 0 := by grind
 rcases Rat.mul_eq_zero.1 this with h2 | h2
 ·grind
 ·exact absurd h2 h9
theorem piece_vd {x : Ed} (hx : Vd x) {d m : Int} (h1 : 1 ≤ d) (h2 : d ≤ 1099511627776) (h3 : 0 ≤ m) (h4 : m ≤ 1099511627776) : Vd ⟨d, m, x.f2, x.f3⟩ :=
 ⟨h1, h2, by simp only; omega, h4, hx.n0, hx.n1, hx.e0, hx.e1, fun h => by simp only at h; omega⟩
theorem piece_em {x : Ed} (hx : Vd x) {d : Int} (h1 : 1 ≤ d) (h2 : d ≤ 1099511627776) : Vd ⟨d, x.f1, x.f2, x.f3⟩ :=
 ⟨h1, h2, hx.m0, hx.m1, hx.n0, hx.n1, hx.e0, hx.e1, hx.em⟩
theorem mem_snoc {out : List Ed} {y : Ed} (h : ∀ x ∈ out, Vd x) (hy : Vd y) : ∀ x ∈ out ++ [y], Vd x := by
 intro z hz
 rcases List.mem_append.1 hz with hz | hz
 ·exact h z hz
 ·rw [List.mem_singleton] at hz
  rw [hz]
  exact hy
theorem after_v {ms ts d m n e k : Int} (hc : Ck ms ts) (hm : 0 ≤ m) (hm1 : m ≤ 1099511627776) (hn : 0 ≤ n) (hn1 : n ≤ 1000) (he : 1 ≤ e) (he1 : e ≤ 1000) (hk : 0 ≤ k) (hk1 : k ≤ 1099511627776) : edit_clocks_after.f ms ts d m n e k = some (whV (afterQ ms ts m n e k)) := by
 have c0 := hc.m0
 have c1 := hc.m1
 have c2 := hc.t0
 have c3 := hc.t1
 unfold edit_clocks_after.f afOk
 rw [if_pos (by simp only [Bool.and_eq_true, decide_eq_true_eq]; omega)]
theorem mx_ge (a b : Int) : a ≤ mx a b ∧ b ≤ mx a b := by unfold mx; split <;> omega
theorem mn_le (a b : Int) : mn a b ≤ a ∧ mn a b ≤ b := by unfold mn; split <;> omega
theorem cut_l {ms ts fr te : Int} (hc : Ck ms ts) (hf : 0 ≤ fr ∧ fr ≤ 1099511627776) (ht : 0 ≤ te ∧ te ≤ 1099511627776) (l : List Ed) (hV : ∀ x ∈ l, Vd x) (hl : l.length ≤ 1000) (hs : sumD l ≤ 1099511627776) (rest : List Ed) :
  ∀ pre out, l = pre ++ rest → (∀ x ∈ out, Vd x) → out.length ≤ pre.length →
   Ev (fun k => edit_clocks_cut.l0 k fr te out (sumD pre) l (l.length : Int) (pre.length : Int) ms ts) (cutL ms ts fr te out (sumD pre) rest) := by
 induction rest with
 | nil =>
  intro pre out he hw ho
  simp only [List.append_nil] at he
  subst he
  refine Ev.step (fun k => by rw [edit_clocks_cut.l0]) ?_
  exact Ev.congr (fun k => if_neg (by omega)) (Ev.bind (normal_f hc out hw (by omega)) (Ev.now _))
 | cons x t ih =>
  intro pre out he hw ho
  have hlen : l.length = pre.length + (t.length + 1) := by rw [he]; simp
  have hx : rd_T77 l (pre.length : Int) = x := by rw [he]; exact rd_at pre x t
  have hv : Vd x := hV x (by rw [he]; simp)
  have hst : 0 ≤ sumD t := sumD_nonneg (fun y hy => hV y (by rw [he]; simp [hy]))
  have hp0 : 0 ≤ sumD pre := sumD_nonneg (fun y hy => hV y (by rw [he]; simp [hy]))
  have hsl : sumD l = sumD pre + x.f0 + sumD t := by rw [he, sumD_app]; simp only [sumD]; omega
  have hsp : sumD (pre ++ [x]) = sumD pre + x.f0 := by rw [sumD_app]; simp [sumD]
  have hd0 := hv.d0
  have hwb : wrap64 (sumD pre + x.f0) = sumD (pre ++ [x]) := by rw [hsp]; exact w64 (by omega) (by omega)
  have nx : ∀ out', (∀ x ∈ out', Vd x) → out'.length ≤ (pre ++ [x]).length → Ev (fun k => edit_clocks_cut.l0 k fr te out' (sumD (pre ++ [x])) l (l.length : Int) (wrap64 ((pre.length : Int) + 1)) ms ts) (cutL ms ts fr te out' (sumD pre + x.f0) t) := by
   intro out' h1 h2
   rw [len_step pre x (by omega), ← hsp]
   exact ih (pre ++ [x]) out' (by rw [he]; simp) h1 h2
  have a1 := mx_ge (sumD pre) fr
  have e1 := mn_le (sumD pre + x.f0) te
  have a2 : mx (sumD pre) fr ≤ 1099511627776 := by unfold mx; split <;> omega
  have e0 : 0 ≤ mn (sumD pre + x.f0) te := by unfold mn; split <;> omega
  have hA0 : 0 ≤ mx (sumD pre) fr - sumD pre := by omega
  have hA1 : mx (sumD pre) fr - sumD pre ≤ 1099511627776 := by omega
  have hwa : wrap64 (mx (sumD pre) fr - sumD pre) = mx (sumD pre) fr - sumD pre := w64 (by omega) (by omega)
  have hwd : wrap64 (mn (sumD pre + x.f0) te - mx (sumD pre) fr) = mn (sumD pre + x.f0) te - mx (sumD pre) fr := w64 (by omega) (by omega)
  have hD1 : mn (sumD pre + x.f0) te - mx (sumD pre) fr ≤ 1099511627776 := by omega
  rw [cutL_cons]
  refine Ev.step (fun k => by rw [edit_clocks_cut.l0]) ?_
  refine Ev.congr (fun k => if_pos (by omega)) (Ev.congr (fun k => if_pos (by omega)) (Ev.congr (fun k => if_pos (by omega)) ?_))
  rw [hx, hwb, hsp, hwd, hwa]
  rw [hsp] at nx
  by_cases hc1 : mn (sumD pre + x.f0) te ≤ mx (sumD pre) fr
  ·rw [if_pos hc1]
   exact Ev.congr (fun k => if_pos hc1) (nx out hw (by simp; omega))
  ·rw [if_neg hc1]
   refine Ev.congr (fun k => if_neg hc1) ?_
   have hD0 : 1 ≤ mn (sumD pre + x.f0) te - mx (sumD pre) fr := by omega
   generalize mn (sumD pre + x.f0) te - mx (sumD pre) fr = D at *
   generalize mx (sumD pre) fr - sumD pre = K at *
   have hv2 := hv.n0
   have hv3 := hv.e0
   by_cases hm : 0 ≤ x.f1
   ·rw [if_pos hm]
    refine Ev.congr (fun k => if_pos hm) ?_
    rw [after_v hc hm hv.m1 hv.n0 hv.n1 hv.e0 hv.e1 hA0 hA1]
    simp only [Option.bind_some]
    by_cases hq : (whV (afterQ ms ts x.f1 x.f2 x.f3 K)).2 = 0
    ·have r := wh_rng (after_nn hc hm hv.n0 hv.e0 hA0) hq
     rw [if_pos hq]
     exact Ev.congr (fun k => if_pos hq) (Ev.congr (fun k => if_pos (by omega)) (nx _ (mem_snoc hw (piece_vd hv hD0 hD1 r.1.1 r.1.2)) (by simp; omega)))
    ·rw [if_neg hq]
     exact Ev.congr (fun k => if_neg hq) (Ev.now _)
   ·rw [if_neg hm]
    exact Ev.congr (fun k => if_neg hm) (Ev.congr (fun k => if_pos (by omega)) (nx _ (mem_snoc hw (piece_em hv hD0 hD1)) (by simp; omega)))
theorem cut_f {ms ts fr te : Int} (hc : Ck ms ts) (hf : 0 ≤ fr ∧ fr ≤ 1099511627776) (ht : 0 ≤ te ∧ te ≤ 1099511627776) (l : List Ed) (hV : ∀ x ∈ l, Vd x) (hl : l.length ≤ 1000) (hs : sumD l ≤ 1099511627776) : Ev (fun k => edit_clocks_cut.f k ms ts l fr te) (cutL ms ts fr te [] 0 l) :=
 cut_l hc hf ht l hV hl hs l [] [] rfl (by simp) (by simp)
def cutOk (fr te : Int) : Prop := (0 ≤ fr ∧ fr ≤ 1099511627776) ∧ (0 ≤ te ∧ te ≤ 1099511627776) ∧ fr ≤ te
instance (fr te : Int) : Decidable (cutOk fr te) := inferInstanceAs (Decidable (_ ∧ _))
def cutV (ms ts fr te : Int) (l : List Ed) : List Ed × Int := if chk l ms ts = 0 then (if cutOk fr te then cutL ms ts fr te [] 0 l else ([], 1)) else ([], chk l ms ts)
def tkB (a : Int) : Bool := decide (0 ≤ a) && decide (a ≤ 1099511627776)
theorem tick_f (a : Int) : edit_isTick.f a = some (tkB a) := by
 unfold edit_isTick.f tkB
 by_cases h : a ≥ 0
 ·rw [if_pos h, decide_eq_true (show 0 ≤ a from h), Bool.true_and]
 ·rw [if_neg h, decide_eq_false (show ¬ 0 ≤ a from h), Bool.false_and]
theorem tkB_iff {a : Int} : tkB a = true ↔ 0 ≤ a ∧ a ≤ 1099511627776 := by
 unfold tkB
 simp only [Bool.and_eq_true, decide_eq_true_eq]
theorem Cut_f (l : List Ed) (ms ts fr te : Int) : Ev (fun k => edit_Cut.f k l ms ts fr te) (cutV ms ts fr te l) := by
 unfold cutV
 by_cases h0 : chk l ms ts = 0
 ·obtain ⟨hc, hl, hV, hs⟩ := chk_ok.1 h0
  rw [if_pos h0]
  have h1 := check_f l ms ts
  rw [h0] at h1
  refine Ev.congr (fun k => rfl) (Ev.bind h1 (Ev.congr (fun k => if_pos rfl) ?_))
  rw [tick_f, tick_f]
  simp only [Option.bind_some]
  by_cases h2 : tkB fr = true
  ·refine Ev.congr (fun k => if_pos h2) ?_
   by_cases h3 : tkB te = true
   ·refine Ev.congr (fun k => if_pos h3) ?_
    by_cases h4 : te < fr
    ·rw [if_neg (fun h => by have := h.2.2; omega)]
     exact Ev.congr (fun k => if_pos h4) (Ev.now _)
    ·rw [if_pos ⟨tkB_iff.1 h2, tkB_iff.1 h3, by omega⟩]
     exact Ev.congr (fun k => if_neg h4) (Ev.bind (cut_f hc (tkB_iff.1 h2) (tkB_iff.1 h3) l hV (by omega) hs) (Ev.now _))
   ·rw [if_neg (fun h => h3 (tkB_iff.2 h.2.1))]
    exact Ev.congr (fun k => if_neg h3) (Ev.now _)
  ·rw [if_neg (fun h => h2 (tkB_iff.2 h.1))]
   exact Ev.congr (fun k => if_neg h2) (Ev.now _)
 ·rw [if_neg h0]
  refine Ev.congr (fun k => rfl) (Ev.bind (check_f l ms ts) ?_)
  exact Ev.congr (fun k => if_neg h0) (Ev.now _)
def pcs (ms ts fr te : Int) : Int → List Ed → List Ed
 | _, [] => []
 | b, x :: t =>
  if mn (b + x.f0) te ≤ mx b fr then pcs ms ts fr te (b + x.f0) t
  else ⟨mn (b + x.f0) te - mx b fr, if 0 ≤ x.f1 then (whV (afterQ ms ts x.f1 x.f2 x.f3 (mx b fr - b))).1 else x.f1, x.f2, x.f3⟩ :: pcs ms ts fr te (b + x.f0) t
def pok (ms ts fr te : Int) : Int → List Ed → Prop
 | _, [] => True
 | b, x :: t => (¬ mn (b + x.f0) te ≤ mx b fr → 0 ≤ x.f1 → (whV (afterQ ms ts x.f1 x.f2 x.f3 (mx b fr - b))).2 = 0) ∧ pok ms ts fr te (b + x.f0) t
theorem pcs_cons (ms ts fr te b : Int) (x : Ed) (t : List Ed) : pcs ms ts fr te b (x :: t) = if mn (b + x.f0) te ≤ mx b fr then pcs ms ts fr te (b + x.f0) t
  else ⟨mn (b + x.f0) te - mx b fr, if 0 ≤ x.f1 then (whV (afterQ ms ts x.f1 x.f2 x.f3 (mx b fr - b))).1 else x.f1, x.f2, x.f3⟩ :: pcs ms ts fr te (b + x.f0) t := rfl
theorem cutL_ok {ms ts fr te : Int} : ∀ (l out : List Ed) (b : Int), (cutL ms ts fr te out b l).2 = 0 → pok ms ts fr te b l ∧ cutL ms ts fr te out b l = nrmV ms ts (out ++ pcs ms ts fr te b l)
 | [], out, b, h => ⟨trivial, by simp [cutL, pcs]⟩
 | x :: t, out, b, h => by
  rw [cutL_cons] at h ⊢
  rw [pcs_cons]
  simp only [pok]
  by_cases h1 : mn (b + x.f0) te ≤ mx b fr
  ·rw [if_pos h1] at h ⊢
   obtain ⟨h2, h3⟩ := cutL_ok t out (b + x.f0) h
   exact ⟨⟨fun hc => absurd h1 hc, h2⟩, by rw [h3, if_pos h1]⟩
  ·rw [if_neg h1] at h ⊢
   rw [if_neg h1]
   by_cases hm : 0 ≤ x.f1
   ·rw [if_pos hm] at h ⊢
    rw [if_pos hm]
    by_cases hq : (whV (afterQ ms ts x.f1 x.f2 x.f3 (mx b fr - b))).2 = 0
    ·rw [if_pos hq] at h ⊢
     obtain ⟨h2, h3⟩ := cutL_ok t _ (b + x.f0) h
     exact ⟨⟨fun _ _ => hq, h2⟩, by rw [h3, List.append_assoc]; rfl⟩
    ·rw [if_neg hq] at h
     exact absurd h hq
   ·rw [if_neg hm] at h ⊢
    rw [if_neg hm]
    obtain ⟨h2, h3⟩ := cutL_ok t _ (b + x.f0) h
    exact ⟨⟨fun _ hc => absurd hc hm, h2⟩, by rw [h3, List.append_assoc]; rfl⟩
theorem pcs_vd {ms ts fr te : Int} (hc : Ck ms ts) (hf : 0 ≤ fr) (ht : te ≤ 1099511627776) : ∀ (l : List Ed) (b : Int), 0 ≤ b → pok ms ts fr te b l → (∀ x ∈ l, Vd x) → ∀ y ∈ pcs ms ts fr te b l, Vd y
 | [], b, _, _, _ => by simp [pcs]
 | x :: t, b, hb, hp, hV => by
  have hv := hV x (by simp)
  have d0 := hv.d0
  have ih := pcs_vd hc hf ht t (b + x.f0) (by omega) hp.2 (fun y hy => hV y (by simp [hy]))
  have a1 := mx_ge b fr
  have e1 := mn_le (b + x.f0) te
  rw [pcs_cons]
  by_cases h1 : mn (b + x.f0) te ≤ mx b fr
  ·rw [if_pos h1]
   exact ih
  ·rw [if_neg h1]
   intro y hy
   rcases List.mem_cons.1 hy with rfl | hy
   ·by_cases hm : 0 ≤ x.f1
    ·rw [if_pos hm]
     have r := wh_rng (after_nn hc hm hv.n0 hv.e0 (by omega)) (hp.1 h1 hm)
     exact piece_vd hv (by omega) (by omega) r.1.1 r.1.2
    ·rw [if_neg hm]
     exact piece_em hv (by omega) (by omega)
   ·exact ih y hy
theorem pcs_end {ms ts fr te : Int} : ∀ (l : List Ed) (b : Int), (∀ x ∈ l, Vd x) → te ≤ mx b fr → pcs ms ts fr te b l = []
 | [], b, _, _ => rfl
 | x :: t, b, hV, h => by
  have d0 := (hV x (by simp)).d0
  have e1 := mn_le (b + x.f0) te
  rw [pcs_cons, if_pos (by omega)]
  exact pcs_end t (b + x.f0) (fun y hy => hV y (by simp [hy])) (by unfold mx at h ⊢; split at h <;> split <;> omega)
theorem pcs_med {ms ts fr te : Int} (hc : Ck ms ts) (hf : 0 ≤ fr) (hft : fr ≤ te) {q : Rat} (hq : 0 ≤ q) : ∀ (l : List Ed) (b : Int), 0 ≤ b → pok ms ts fr te b l → (∀ x ∈ l, Vd x) →
  medL ms ts q (mx b fr - fr) (pcs ms ts fr te b l) = if q + qq fr ms < qq te ms then medL ms ts (q + qq fr ms) b l else noV
 | [], b, _, _, _ => by
  simp only [pcs, medL]
  split <;> rfl
 | x :: t, b, hb, hp, hV => by
  have c0 := hc.m0
  have hm : 0 < ms := by omega
  have hv := hV x (by simp)
  have d0 := hv.d0
  have hV2 : ∀ y ∈ t, Vd y := fun y hy => hV y (by simp [hy])
  have h0t : ∀ y ∈ t, 0 ≤ y.f0 := fun y hy => by have := (hV2 y hy).d0; omega
  have ih := pcs_med hc hf hft hq t (b + x.f0) (by omega) hp.2 hV2
  have hpf : qq fr ms ≤ q + qq fr ms := by grind
  generalize hp' : q + qq fr ms = p at *
  rw [pcs_cons]
  have a1 := mx_ge b fr
  have e1 := mn_le (b + x.f0) te
  by_cases h1 : mn (b + x.f0) te ≤ mx b fr
  ·rw [if_pos h1]
   by_cases h2 : b + x.f0 ≤ fr
   ·have e2 : mx b fr = mx (b + x.f0) fr := by unfold mx; split <;> split <;> omega
    rw [e2, ih]
    have l1 : ¬ p < qq (b + x.f0) ms := Rat.not_lt.2 (Rat.le_trans ((qq_le1 hm).2 h2) hpf)
    have l2 : ¬ p < qq b ms := Rat.not_lt.2 (Rat.le_trans ((qq_le1 hm).2 (by omega)) hpf)
    rw [med_cons, if_neg l2, if_neg l1]
   ·have h3 : te ≤ mx b fr := by unfold mx; unfold mn mx at h1; split at h1 <;> split at h1 <;> split <;> omega
    rw [pcs_end t (b + x.f0) hV2 (by unfold mx at h3 ⊢; split at h3 <;> split <;> omega)]
    show noV = _
    by_cases h4 : p < qq te ms
    ·rw [if_pos h4]
     have h5 : te ≤ b := by
      refine Int.not_lt.1 fun h6 => ?_
      have h7 : te = fr := by unfold mx at h3; split at h3 <;> omega
      rw [h7] at h4
      exact absurd h4 (Rat.not_lt.2 hpf)
     rw [med_low hm (x :: t) b (fun y hy => by have := (hV y hy).d0; omega) (lt_le h4 ((qq_le1 hm).2 h5))]
    ·rw [if_neg h4]
  ·rw [if_neg h1]
   have hy : ∀ r, shV ts (⟨mn (b + x.f0) te - mx b fr, if 0 ≤ x.f1 then (whV (afterQ ms ts x.f1 x.f2 x.f3 (mx b fr - b))).1 else x.f1, x.f2, x.f3⟩ : Ed) r = shV ts x (r + qq (mx b fr - b) ms) := by
    intro r
    unfold shV
    simp only
    by_cases hm1 : 0 ≤ x.f1
    ·have w := wh_rng (after_nn hc hm1 hv.n0 hv.e0 (show 0 ≤ mx b fr - b by omega)) (hp.1 h1 hm1)
     rw [if_pos hm1, if_neg (by omega), if_neg (by omega), after_sh hc w.2]
     rw [show qq x.f1 ts + qq (mx b fr - b) ms * qq x.f2 x.f3 + r * qq x.f2 x.f3 = qq x.f1 ts + (r + qq (mx b fr - b) ms) * qq x.f2 x.f3 by grind]
    ·rw [if_neg hm1, if_pos (by omega), if_pos (by omega)]
   rw [med_cons, hy]
   simp only
   have eB : mx b fr - fr + (mn (b + x.f0) te - mx b fr) = mn (b + x.f0) te - fr := by omega
   rw [eB]
   have q1 : q < qq (mx b fr - fr) ms ↔ p < qq (mx b fr) ms := by
    have : qq (mx b fr) ms = qq (mx b fr - fr) ms + qq fr ms := by rw [← qq_add1 (by omega)]; congr 1; omega
    rw [this, ← hp']
    exact Rat.add_lt_add_right.symm
   have q2 : q < qq (mn (b + x.f0) te - fr) ms ↔ p < qq (mn (b + x.f0) te) ms := by
    have : qq (mn (b + x.f0) te) ms = qq (mn (b + x.f0) te - fr) ms + qq fr ms := by rw [← qq_add1 (by omega)]; congr 1; omega
    rw [this, ← hp']
    exact Rat.add_lt_add_right.symm
   have hsh : q - qq (mx b fr - fr) ms + qq (mx b fr - b) ms = p - qq b ms := by
    have e3 : qq (mx b fr) ms = qq (mx b fr - fr) ms + qq fr ms := by rw [← qq_add1 (by omega)]; congr 1; omega
    have e4 : qq (mx b fr) ms = qq (mx b fr - b) ms + qq b ms := by rw [← qq_add1 (by omega)]; congr 1; omega
    grind
   rw [hsh]
   have hrest : medL ms ts q (mn (b + x.f0) te - fr) (pcs ms ts fr te (b + x.f0) t) = if p < qq te ms then (if p < qq (mn (b + x.f0) te) ms then noV else medL ms ts p (b + x.f0) t) else noV := by
    by_cases h2 : b + x.f0 ≤ te
    ·have e2 : mn (b + x.f0) te = mx (b + x.f0) fr := by unfold mn mx; unfold mn mx at h1; split at h1 <;> split at h1 <;> split <;> split <;> omega
     have e5 : mn (b + x.f0) te = b + x.f0 := by unfold mn; split <;> omega
     rw [e2, ih, ← e2, e5]
     by_cases h3 : p < qq te ms
     ·rw [if_pos h3, if_pos h3]
      split
      ·rename_i h4
       exact med_low hm t _ h0t h4
      ·rfl
     ·rw [if_neg h3, if_neg h3]
    ·have e5 : mn (b + x.f0) te = te := by unfold mn; split <;> omega
     rw [pcs_end t (b + x.f0) hV2 (by have := mx_ge (b + x.f0) fr; omega), e5]
     show noV = _
     by_cases h3 : p < qq te ms
     ·rw [if_pos h3, if_pos h3]
     ·rw [if_neg h3]
   rw [hrest]
   have l1 := (qq_le1 (a := mn (b + x.f0) te) (b := te) hm).2 (by omega)
   have l2 := (qq_le1 (a := mn (b + x.f0) te) (b := b + x.f0) hm).2 (by omega)
   have l3 := (qq_le1 (a := b) (b := mx b fr) hm).2 (by omega)
   have l4 := (qq_le1 (a := mx b fr) (b := mn (b + x.f0) te) hm).2 (by omega)
   rw [med_cons]
   by_cases s1 : p < qq (mx b fr) ms
   ·have s2 := lt_le s1 l4
    have s3 := lt_le s2 l1
    have hbf : fr < b := by
     refine Int.not_le.1 fun h => ?_
     have : mx b fr = fr := by unfold mx; split <;> omega
     rw [this] at s1
     exact absurd s1 (Rat.not_lt.2 hpf)
    have e6 : mx b fr = b := by unfold mx; split <;> omega
    rw [e6] at s1
    rw [if_pos (q1.2 (by rw [e6]; exact s1)), if_pos s3, if_pos s2, if_pos s3, if_pos s1]
    exact (med_low hm t _ h0t (lt_le s2 l2)).symm
   ·have s4 : ¬ p < qq b ms := fun h => s1 (lt_le h l3)
    rw [if_neg (fun h => s1 (q1.1 h)), if_neg s4]
    by_cases s2 : p < qq (mn (b + x.f0) te) ms
    ·rw [if_pos (q2.2 s2), if_pos (lt_le s2 l1), if_pos (lt_le s2 l2)]
    ·rw [if_neg (fun h => s2 (q2.1 h)), if_neg s2]
     by_cases s3 : p < qq te ms
     ·rw [if_pos s3, if_pos s3]
      have e7 : mn (b + x.f0) te = b + x.f0 := by
       unfold mn at s2 ⊢
       split at s2
       ·exact absurd s3 s2
       ·rename_i h
        rw [if_neg h]
      rw [e7] at s2
      rw [if_neg s2]
     ·rw [if_neg s3, if_neg s3]
theorem cutV_med {ms ts fr te : Int} {l : List Ed} (h : (cutV ms ts fr te l).2 = 0) : chk l ms ts = 0 ∧ chk (cutV ms ts fr te l).1 ms ts = 0 ∧ cutOk fr te ∧ ∀ q, medL ms ts q 0 (cutV ms ts fr te l).1 = if q < 0 then noV else if q + qq fr ms < qq te ms then medL ms ts (q + qq fr ms) 0 l else noV := by
 unfold cutV at h ⊢
 by_cases h0 : chk l ms ts = 0
 ·rw [if_pos h0] at h ⊢
  by_cases h1 : cutOk fr te
  ·rw [if_pos h1] at h ⊢
   obtain ⟨hc, hl, hV, hs⟩ := chk_ok.1 h0
   obtain ⟨h2, h3⟩ := cutL_ok l [] 0 h
   rw [List.nil_append] at h3
   rw [h3] at h ⊢
   have hV2 := pcs_vd hc h1.1.1 h1.2.1.2 l 0 (by omega) h2 hV
   obtain ⟨h4, h5, h6⟩ := nrmV_ok hc hV2 h
   rw [h4]
   refine ⟨h0, h5, h1, fun q => ?_⟩
   rw [nrm_med hc hV2]
   have c0 := hc.m0
   by_cases hq : q < 0
   ·rw [if_pos hq]
    exact med_low (by omega) _ 0 (fun y hy => by have := (hV2 y hy).d0; omega) (by rw [qq_zero]; exact hq)
   ·rw [if_neg hq]
    have hm := pcs_med hc h1.1.1 h1.2.2 (Rat.not_lt.1 hq) l 0 (by omega) h2 hV
    have e : mx 0 fr - fr = 0 := by have := h1.1.1; unfold mx; split <;> omega
    rw [e] at hm
    exact hm
  ·rw [if_neg h1] at h
   cases h
 ·rw [if_neg h0] at h
  exact absurd h h0
end Go.Proofs.Ytpbhepdgamoiaaa.Ct
namespace Go.Proofs.Ytpbhepdgamoiaaa.Tv
open Go.RowKit Go Go.Proofs.YtpbhepdgamoiaaaW.PrintWords Go.Proofs.YtpbhepdgamoiaaaW.PrintLast Go.Proofs.YtpbhepdgamoiaaaW.PrintMore Go.Proofs.Ytpbhepdgamoiaaa.Rf Go.Proofs.Ytpbhepdgamoiaaa.Er Go.Proofs.Ytpbhepdgamoiaaa.Ek Go.Proofs.Ytpbhepdgamoiaaa.Et Go.Proofs.Ytpbhepdgamoiaaa.E Go.Proofs.Ytpbhepdgamoiaaa.Pe Go.Proofs.Ytpbhepdgamoiaaa.Pf Go.Proofs.Ytpbhepdgamoiaaa.Pg Go.Proofs.Ytpbhepdgamoiaaa.Qr Go.Proofs.Ytpbhepdgamoiaaa.Qn Go.Proofs.Ytpbhepdgamoiaaa.Qt Go.Proofs.Ytpbhepdgamoiaaa.Qm Go.Proofs.Ytpbhepdgamoiaaa.Cl Go.Proofs.Ytpbhepdgamoiaaa.Nm Go.Proofs.Ytpbhepdgamoiaaa.Sw
set_option linter.unusedVariables false
set_option linter.unusedSimpArgs false
theorem valid_is {n d : Int} (h : Ea.valid n d = true) : (-1152921504606846976 ≤ n ∧ n ≤ 1152921504606846976) ∧ 1 ≤ d ∧ d ≤ 1152921504606846976 := by
 unfold Ea.valid at h
 simp only [Bool.and_eq_true, decide_eq_true_eq] at h
 omega
theorem ratOf_v {n d : Int} (h : Ea.valid n d = true) : RE (fun k => dioramaref02_RatOf.f k n d) (qq n d) 3 := by
 have := valid_is h
 exact ratOf_f n d (by omega) (by omega) (by omega) (by omega)
theorem tm_ok {q : Rat} (h : (tmV q).2 = 0) : Ea.valid (tmV q).1.1 (tmV q).1.2 = true ∧ qq (tmV q).1.1 (tmV q).1.2 = q := by
 unfold tmV at h ⊢
 by_cases hv : Ea.valid q.num q.den = true
 ·rw [if_pos hv]
  exact ⟨hv, Rat.num_divInt_den q⟩
 ·rw [if_neg hv] at h
  cases h
def addV (n d n' d' : Int) : (Int × Int) × Int := if Ea.valid n d = true ∧ Ea.valid n' d' = true then tmV (qq n d + qq n' d') else ((0, 0), 4)
theorem Add_f (n d n' d' : Int) : Ev (fun k => dioramaref02_Add.f k n d n' d') ((addV n d n' d').1.1, (addV n d n' d').1.2, (addV n d n' d').2) := by
 have off : ¬ (Ea.valid n d = true ∧ Ea.valid n' d' = true) → Ev (fun k => dioramaref02_Add.j0 k true n d n' d') ((addV n d n' d').1.1, (addV n d n' d').1.2, (addV n d n' d').2) := by
  intro h
  refine Ev.step (fun k => by rw [dioramaref02_Add.j0]) (Ev.congr (fun k => if_pos rfl) ?_)
  unfold addV
  rw [if_neg h]
  exact Ev.now _
 have hf : ∀ k, dioramaref02_Add.f k n d n' d' = if Ea.valid n d = true then dioramaref02_Add.j0 k (!Ea.valid n' d') n d n' d' else dioramaref02_Add.j0 k true n d n' d' := by
  intro k
  unfold dioramaref02_Add.f
  rw [rvalid_f, rvalid_f]
  simp only [Option.bind_some]
 refine Ev.congr hf ?_
 by_cases h1 : Ea.valid n d = true
 ·refine Ev.congr (fun k => if_pos h1) ?_
  by_cases h2 : Ea.valid n' d' = true
  ·rw [h2]
   refine Ev.step (fun k => by rw [dioramaref02_Add.j0]) (Ev.congr (fun k => if_neg (by decide)) ?_)
   obtain ⟨b1, x1, y1, e1, v1⟩ := ratOf_v h1
   obtain ⟨b2, x2, y2, e2, v2⟩ := ratOf_v h2
   obtain ⟨b3, x3, y3, e3, v3⟩ := sumR_f v1 v2 (by decide)
   have e4 := time_f v3 (by decide)
   unfold addV
   rw [if_pos ⟨h1, h2⟩]
   exact Ev.bind e1 (Ev.bind e2 (Ev.bind e3 (Ev.bind e4 (Ev.now _))))
  ·rw [show Ea.valid n' d' = false by simpa using h2]
   exact off (fun h => h2 h.2)
 ·exact Ev.congr (fun k => if_neg h1) (off (fun h => h1 h.1))
theorem add_ok {n d n' d' : Int} (h : (addV n d n' d').2 = 0) : Ea.valid (addV n d n' d').1.1 (addV n d n' d').1.2 = true ∧ qq (addV n d n' d').1.1 (addV n d n' d').1.2 = qq n d + qq n' d' := by
 unfold addV at h ⊢
 by_cases hv : Ea.valid n d = true ∧ Ea.valid n' d' = true
 ·rw [if_pos hv] at h ⊢
  exact tm_ok h
 ·rw [if_neg hv] at h
  cases h
def rtB (a : Int) : Bool := decide (-1099511627776 ≤ a) && decide (a ≤ 1099511627776)
theorem rtick_f (a : Int) : dioramaref02_isTick.f a = some (rtB a) := by
 unfold dioramaref02_isTick.f rtB
 by_cases h : a ≥ -1099511627776
 ·rw [if_pos h, decide_eq_true (show -1099511627776 ≤ a from h), Bool.true_and]
 ·rw [if_neg h, decide_eq_false (show ¬ -1099511627776 ≤ a from h), Bool.false_and]
theorem r2scale_f (a : Int) : dioramaref02_isScale.f a = some (scB a) := scale_f a
def frmV (a s : Int) : (Int × Int) × Int := if rtB a = true ∧ scB s = true then tmV (qq a s) else ((0, 0), 1)
theorem From_f (a s : Int) : Ev (fun k => dioramaref02_From.f k a s) ((frmV a s).1.1, (frmV a s).1.2, (frmV a s).2) := by
 have off : ¬ (rtB a = true ∧ scB s = true) → Ev (fun k => dioramaref02_From.j0 k a s true) ((frmV a s).1.1, (frmV a s).1.2, (frmV a s).2) := by
  intro h
  refine Ev.step (fun k => by rw [dioramaref02_From.j0]) (Ev.congr (fun k => if_pos rfl) ?_)
  unfold frmV
  rw [if_neg h]
  exact Ev.now _
 have hf : ∀ k, dioramaref02_From.f k a s = if rtB a = true then dioramaref02_From.j0 k a s (!scB s) else dioramaref02_From.j0 k a s true := by
  intro k
  unfold dioramaref02_From.f
  rw [rtick_f, r2scale_f]
  simp only [Option.bind_some]
 refine Ev.congr hf ?_
 by_cases h1 : rtB a = true
 ·refine Ev.congr (fun k => if_pos h1) ?_
  by_cases h2 : scB s = true
  ·rw [h2]
   refine Ev.step (fun k => by rw [dioramaref02_From.j0]) (Ev.congr (fun k => if_neg (by decide)) ?_)
   have h3 := h1
   have h4 := h2
   unfold rtB at h3
   unfold scB at h4
   simp only [Bool.and_eq_true, decide_eq_true_eq] at h3 h4
   obtain ⟨b1, x1, y1, e1, v1⟩ := ratOf_f a s (by omega) (by omega) (by omega) (by omega)
   have e4 := time_f v1 (by decide)
   unfold frmV
   rw [if_pos ⟨h1, h2⟩]
   exact Ev.bind e1 (Ev.bind e4 (Ev.now _))
  ·rw [show scB s = false by simpa using h2]
   exact off (fun h => h2 h.2)
 ·exact Ev.congr (fun k => if_neg h1) (off (fun h => h1 h.1))
theorem frm_ok {a s : Int} (h : (frmV a s).2 = 0) : Ea.valid (frmV a s).1.1 (frmV a s).1.2 = true ∧ qq (frmV a s).1.1 (frmV a s).1.2 = qq a s := by
 unfold frmV at h ⊢
 by_cases hv : rtB a = true ∧ scB s = true
 ·rw [if_pos hv] at h ⊢
  exact tm_ok h
 ·rw [if_neg hv] at h
  cases h
theorem cmp_ge0 (p q : Rat) : decide (cmpQ p q ≥ 0) = decide (¬ p < q) := by
 unfold cmpQ
 by_cases h : p < q
 ·rw [if_pos h, show decide (¬ p < q) = false from decide_eq_false (fun hc => hc h)]
  rfl
 ·rw [if_neg h, show decide (¬ p < q) = true from decide_eq_true h]
  split <;> rfl
theorem num_neg {n d : Int} (hd : 0 < d) : qq n d < 0 ↔ n < 0 := by
 rw [show (0 : Rat) = qq 0 1 from (qq_zero 1).symm, qq_lt hd (by decide)]
 omega
end Go.Proofs.Ytpbhepdgamoiaaa.Tv
namespace Go.Proofs.Ytpbhepdgamoiaaa.Lt
open Go.RowKit Go Go.Proofs.YtpbhepdgamoiaaaW.PrintWords Go.Proofs.YtpbhepdgamoiaaaW.PrintLast Go.Proofs.YtpbhepdgamoiaaaW.PrintMore Go.Proofs.Ytpbhepdgamoiaaa.Rf Go.Proofs.Ytpbhepdgamoiaaa.Er Go.Proofs.Ytpbhepdgamoiaaa.Ek Go.Proofs.Ytpbhepdgamoiaaa.Et Go.Proofs.Ytpbhepdgamoiaaa.E Go.Proofs.Ytpbhepdgamoiaaa.Pe Go.Proofs.Ytpbhepdgamoiaaa.Pf Go.Proofs.Ytpbhepdgamoiaaa.Pg Go.Proofs.Ytpbhepdgamoiaaa.Nm Go.Proofs.Ytpbhepdgamoiaaa.Sw Go.Proofs.Ytpbhepdgamoiaaa.Ct Go.Proofs.Ytpbhepdgamoiaaa.Tv Go.Proofs.Ytpbhepdgamoiaaa.Rcm Go.Proofs.Ytpbhepdgamoiaaa.Oe
set_option linter.unusedVariables false
set_option linter.unusedSimpArgs false
theorem pure_Lt (l : List Ed) (ms ts fr te n d : Int) : Ev (fun k => dioramalaw10_EditLater.f k l ms ts fr te n d) true := by
 have aw : Ev (fun k => (dioramalaw10_awake.f k).bind fun t => (some t)) true := Ev.bind awake_f (Ev.now _)
 have off : ∀ l', Ev (fun k => dioramalaw10_EditLater.j0 k fr te l' true l ms ts n d) true := by
  intro l'
  exact Ev.step (fun k => by rw [dioramalaw10_EditLater.j0]) (Ev.congr (fun k => if_pos rfl) aw)
 have off1 : ∀ l' a b c e, Ev (fun k => dioramalaw10_EditLater.j1 k l' true l ms ts n d a b c e) true := by
  intro l' a b c e
  exact Ev.step (fun k => by rw [dioramalaw10_EditLater.j1]) (Ev.congr (fun k => if_pos rfl) aw)
 refine Ev.congr (f := fun k => if 60 < l.length then ((dioramalaw10_awake.f k).bind fun t => (some t)) else ((edit_Cut.f k l ms ts fr te).bind fun bt => (if bt.2 = 0 then (dioramalaw10_EditLater.j0 k fr te bt.1 (!Ea.valid n d) l ms ts n d) else (dioramalaw10_EditLater.j0 k fr te bt.1 true l ms ts n d)))) (fun k => ?_) ?_
 ·unfold dioramalaw10_EditLater.f
  rw [many_f, rvalid_f]
  simp only [Option.bind_some, decide_eq_true_eq]
 by_cases h1 : 60 < l.length
 ·exact Ev.congr (fun k => if_pos h1) aw
 refine Ev.congr (fun k => if_neg h1) (Ev.bind (Cut_f l ms ts fr te) ?_)
 by_cases h2 : (cutV ms ts fr te l).2 = 0
 ·obtain ⟨hk, hk', hok, hmed⟩ := cutV_med h2
  refine Ev.congr (fun k => if_pos h2) ?_
  generalize (cutV ms ts fr te l).1 = l' at *
  by_cases hv : Ea.valid n d = true
  ·rw [hv]
   refine Ev.step (fun k => by rw [dioramalaw10_EditLater.j0]) (Ev.congr (fun k => if_neg (by decide)) ?_)
   refine Ev.bind (From_f fr ms) (Ev.bind (Add_f n d (frmV fr ms).1.1 (frmV fr ms).1.2) (Ev.bind (From_f te ms) ?_))
   by_cases h3 : (frmV fr ms).2 = 0
   ·refine Ev.congr (fun k => if_pos h3) ?_
    by_cases h4 : (addV n d (frmV fr ms).1.1 (frmV fr ms).1.2).2 = 0
    ·refine Ev.congr (fun k => if_pos h4) ?_
     obtain ⟨v3, q3⟩ := frm_ok h3
     obtain ⟨v4, q4⟩ := add_ok h4
     rw [q3] at q4
     generalize (addV n d (frmV fr ms).1.1 (frmV fr ms).1.2).1.1 = ln at *
     generalize (addV n d (frmV fr ms).1.1 (frmV fr ms).1.2).1.2 = ld at *
     by_cases h5 : (frmV te ms).2 = 0
     ·obtain ⟨v5, q5⟩ := frm_ok h5
      rw [show ((frmV te ms).2 != 0) = false by rw [h5]; rfl]
      generalize (frmV te ms).1.1 = en at *
      generalize (frmV te ms).1.2 = ed at *
      have hd : 0 < d := by have := valid_is hv; omega
      have none' : (qq n d < 0 ∨ ¬ qq ln ld < qq en ed) → Ev (fun k => dioramalaw10_EditLater.j2 k l' true l ms ts n d ln ld) true := by
       intro hc
       have hz : medV l' ms ts n d = noV := by
        rw [medV_ok hk' hv, hmed]
        split
        ·rfl
        ·rename_i h6
         rcases hc with hc | hc
         ·exact absurd hc h6
         ·rw [q4, q5] at hc
          rw [if_neg hc]
       refine Ev.step (fun k => by rw [dioramalaw10_EditLater.j2]) (Ev.congr (fun k => if_pos rfl) ?_)
       unfold edit_Media.f
       simp only [Option.bind_some, hz]
       exact Ev.congr (fun k => if_neg (by decide)) (Ev.congr (fun k => if_pos (by first | trivial | rfl)) aw)
      refine Ev.step (fun k => by rw [dioramalaw10_EditLater.j1]) (Ev.congr (fun k => if_neg (by decide)) ?_)
      unfold dioramaref02_Cmp.f cmpV
      rw [if_pos ⟨v4, v5⟩]
      simp only [Option.bind_some]
      by_cases h7 : n < 0
      ·exact Ev.congr (fun k => if_pos h7) (none' (.inl ((num_neg hd).2 h7)))
      ·refine Ev.congr (fun k => if_neg h7) ?_
       rw [cmp_ge0]
       by_cases h8 : qq ln ld < qq en ed
       ·rw [decide_eq_false (fun hc => hc h8)]
        refine Ev.step (fun k => by rw [dioramalaw10_EditLater.j2]) (Ev.congr (fun k => if_neg (by decide)) ?_)
        rw [shows_f hk' hk hv v4 (by
         rw [hmed, if_neg (fun hc => h7 ((num_neg hd).1 hc)), ← q4, if_pos (by rw [← q5]; exact h8)])]
        simp only [Option.bind_some]
        exact Ev.congr (fun k => if_pos (by first | trivial | rfl)) aw
       ·rw [decide_eq_true h8]
        exact none' (.inr h8)
     ·rw [show ((frmV te ms).2 != 0) = true by simpa using h5]
      exact off1 _ _ _ _ _
    ·exact Ev.congr (fun k => if_neg h4) (off1 _ _ _ _ _)
   ·exact Ev.congr (fun k => if_neg h3) (off1 _ _ _ _ _)
  ·rw [show Ea.valid n d = false by simpa using hv]
   exact off _
 ·exact Ev.congr (fun k => if_neg h2) (off _)
theorem walk_Lt (a : Option Addr) (len c : Nat) (l : List Ed) (ms ts fr te n d : Int) (w : World) (h : Eds w a len c l) (_ : (Lit.int .i64 ms).wf = true) (_ : (Lit.int .i64 ts).wf = true) (_ : (Lit.int .i64 fr).wf = true) (_ : (Lit.int .i64 te).wf = true) (_ : (Lit.int .i64 n).wf = true) (_ : (Lit.int .i64 d).wf = true) :
  Calls Try.prog 12 #[.agg #[.slice a len c, .int .i64 ms, .int .i64 ts, .int .i64 fr, .int .i64 te, .int .i64 n, .int .i64 d]] w (fun e w' => e = .returned (.bool true) ∧ Below w.heap.size w w') := by
 obtain ⟨k, hk⟩ := (pure_Lt l ms ts fr te n d).rounds
 rw [← h.n]
 exact dioramalaw10_EditLater.calls k a c l ms ts fr te n d true w h.c h.h hk
end Go.Proofs.Ytpbhepdgamoiaaa.Lt

/-
  No cell of these rows narrows 'for every input' (looked for: loops, veiled, ifaces, maps, wideKeys, modest, calm, conditions, laid).
  DERIVED. THE GIVEN ROWS OF THIS SEAT. 6 by the template 'for every input the law returns true; each argument reads behind the call as it read before'; 0 by the template 'total and deterministic' (their statements: YtekommcfpjonmaaGreatTotals.lean).
  GIVEN WITH THE SEED: the statements are not yours to turn. If you find one false, say at which input.
  Laid BY PROGRAM, IN A SANDBOX (cutbox-rows.mjs): the forced cells as the released guide's own fill.sh prints them over the translation 07787c1b6aaca336… (all of the seat's roots in one cut). By AI agents, Wed Nov 11 2026. No macro, syntax, notation, axiom, sorry.
-/
import Derived.Test.YtekommcfpjonmaaGreatChecked
import GoSem.Claim
import GoSem.ClaimJoined
import GoSem.ClaimMapViews
import Derived.JoinedTies
import Derived.KernelRfl
namespace Go.Proofs.YtekommcfpjonmaaGreat
/- THE CELL 'sum', in the pinned program and in every row, IS THE sha256 OF THE DUMP (.gsa) THAT YtekommcfpjonmaaGreatProg.lean LOADS. Nothing in Lean hashes anything: it is a label: what it is worth is what the hold of that sum in a sandbox is worth. -/
noncomputable def Tryz.pinned : Pinned := { name := "ytekommcfpjonmaagreat", sum := "07787c1b6aaca336ef1791c0a5997415e2ae5ad143fc89fc8d48a334cc571ce5", checked := Tryz.checked }
namespace Rows
def none {H : Type} : Left H := { results := [], args := [] }

/-- 'dioramalaw02.ExactShifts': WHATEVER THE INPUT: true; the input reads as it did. -/
def exactShiftsSpec : ChangeSpec := { name := "exactShifts", fn := fun _ => fun
  | [d1, d2] => { results := [.lit (.bool true)], args := [d1, d2] }
  | _ => none }
def exactShiftsRow : OpenClaim := { program := "ytekommcfpjonmaagreat", sum := "07787c1b6aaca336ef1791c0a5997415e2ae5ad143fc89fc8d48a334cc571ce5", func := "diorama/dioramalaw02.ExactShifts", spec := "exactShifts", unfollowed := true, recurses := true, apart := false }
def ExactShiftsSaid : Prop := exactShiftsRow.holds Tryz.pinned (OpenSpec.ofChange exactShiftsSpec)

/-- ITS FALSE NEIGHBOUR: 'it returns false'. Refute it at one input. -/
def exactShiftsWrong : ChangeSpec := { name := "exactShifts", fn := fun _ => fun
  | [d1, d2] => { results := [.lit (.bool false)], args := [d1, d2] }
  | _ => none }
def ExactShiftsWrongFalsely : Prop := exactShiftsRow.holds Tryz.pinned (OpenSpec.ofChange exactShiftsWrong)

/-- 'dioramalaw02.ExactCleans': WHATEVER THE INPUT: true; the input reads as it did. -/
def exactCleansSpec : ChangeSpec := { name := "exactCleans", fn := fun _ => fun
  | [d1, d2] => { results := [.lit (.bool true)], args := [d1, d2] }
  | _ => none }
def exactCleansRow : OpenClaim := { program := "ytekommcfpjonmaagreat", sum := "07787c1b6aaca336ef1791c0a5997415e2ae5ad143fc89fc8d48a334cc571ce5", func := "diorama/dioramalaw02.ExactCleans", spec := "exactCleans", unfollowed := true, recurses := true, apart := false }
def ExactCleansSaid : Prop := exactCleansRow.holds Tryz.pinned (OpenSpec.ofChange exactCleansSpec)

/-- ITS FALSE NEIGHBOUR: 'it returns false'. Refute it at one input. -/
def exactCleansWrong : ChangeSpec := { name := "exactCleans", fn := fun _ => fun
  | [d1, d2] => { results := [.lit (.bool false)], args := [d1, d2] }
  | _ => none }
def ExactCleansWrongFalsely : Prop := exactCleansRow.holds Tryz.pinned (OpenSpec.ofChange exactCleansWrong)

/-- 'dioramalaw02.ExactUnites': WHATEVER THE INPUT: true; the input reads as it did. -/
def exactUnitesSpec : ChangeSpec := { name := "exactUnites", fn := fun _ => fun
  | [d1, d2] => { results := [.lit (.bool true)], args := [d1, d2] }
  | _ => none }
def exactUnitesRow : OpenClaim := { program := "ytekommcfpjonmaagreat", sum := "07787c1b6aaca336ef1791c0a5997415e2ae5ad143fc89fc8d48a334cc571ce5", func := "diorama/dioramalaw02.ExactUnites", spec := "exactUnites", unfollowed := true, recurses := true, apart := false }
def ExactUnitesSaid : Prop := exactUnitesRow.holds Tryz.pinned (OpenSpec.ofChange exactUnitesSpec)

/-- ITS FALSE NEIGHBOUR: 'it returns false'. Refute it at one input. -/
def exactUnitesWrong : ChangeSpec := { name := "exactUnites", fn := fun _ => fun
  | [d1, d2] => { results := [.lit (.bool false)], args := [d1, d2] }
  | _ => none }
def ExactUnitesWrongFalsely : Prop := exactUnitesRow.holds Tryz.pinned (OpenSpec.ofChange exactUnitesWrong)

/-- 'dioramalaw02.ExactMembers': WHATEVER THE INPUT: true; the input reads as it did. -/
def exactMembersSpec : ChangeSpec := { name := "exactMembers", fn := fun _ => fun
  | [d1, d2, d3] => { results := [.lit (.bool true)], args := [d1, d2, d3] }
  | _ => none }
def exactMembersRow : OpenClaim := { program := "ytekommcfpjonmaagreat", sum := "07787c1b6aaca336ef1791c0a5997415e2ae5ad143fc89fc8d48a334cc571ce5", func := "diorama/dioramalaw02.ExactMembers", spec := "exactMembers", unfollowed := true, recurses := true, apart := false }
def ExactMembersSaid : Prop := exactMembersRow.holds Tryz.pinned (OpenSpec.ofChange exactMembersSpec)

/-- ITS FALSE NEIGHBOUR: 'it returns false'. Refute it at one input. -/
def exactMembersWrong : ChangeSpec := { name := "exactMembers", fn := fun _ => fun
  | [d1, d2, d3] => { results := [.lit (.bool false)], args := [d1, d2, d3] }
  | _ => none }
def ExactMembersWrongFalsely : Prop := exactMembersRow.holds Tryz.pinned (OpenSpec.ofChange exactMembersWrong)

/-- 'dioramalaw02.ExactTotals': WHATEVER THE INPUT: true; the input reads as it did. -/
def exactTotalsSpec : ChangeSpec := { name := "exactTotals", fn := fun _ => fun
  | [d1, d2] => { results := [.lit (.bool true)], args := [d1, d2] }
  | _ => none }
def exactTotalsRow : OpenClaim := { program := "ytekommcfpjonmaagreat", sum := "07787c1b6aaca336ef1791c0a5997415e2ae5ad143fc89fc8d48a334cc571ce5", func := "diorama/dioramalaw02.ExactTotals", spec := "exactTotals", unfollowed := true, recurses := true, apart := false }
def ExactTotalsSaid : Prop := exactTotalsRow.holds Tryz.pinned (OpenSpec.ofChange exactTotalsSpec)

/-- ITS FALSE NEIGHBOUR: 'it returns false'. Refute it at one input. -/
def exactTotalsWrong : ChangeSpec := { name := "exactTotals", fn := fun _ => fun
  | [d1, d2] => { results := [.lit (.bool false)], args := [d1, d2] }
  | _ => none }
def ExactTotalsWrongFalsely : Prop := exactTotalsRow.holds Tryz.pinned (OpenSpec.ofChange exactTotalsWrong)

/-- 'dioramalaw10.EditBack': WHATEVER THE INPUT: true; the input reads as it did. -/
def editBackSpec : ChangeSpec := { name := "editBack", fn := fun _ => fun
  | [d1, d2] => { results := [.lit (.bool true)], args := [d1, d2] }
  | _ => none }
def editBackRow : OpenClaim := { program := "ytekommcfpjonmaagreat", sum := "07787c1b6aaca336ef1791c0a5997415e2ae5ad143fc89fc8d48a334cc571ce5", func := "diorama/dioramalaw10.EditBack", spec := "editBack", unfollowed := true, recurses := true, apart := false }
def EditBackSaid : Prop := editBackRow.holds Tryz.pinned (OpenSpec.ofChange editBackSpec)

/-- ITS FALSE NEIGHBOUR: 'it returns false'. Refute it at one input. -/
def editBackWrong : ChangeSpec := { name := "editBack", fn := fun _ => fun
  | [d1, d2] => { results := [.lit (.bool false)], args := [d1, d2] }
  | _ => none }
def EditBackWrongFalsely : Prop := editBackRow.holds Tryz.pinned (OpenSpec.ofChange editBackWrong)

/- THE SECOND FORM. 'bulk': how many values and letters a reading holds, each counted each time it is reached (what is shared counts as often as it is met; a slice's spare places count too). A statement '..UptoSaid' is the law's where the arguments, and the package variables that the reading takes, are together of bulk at most 1048576: NARROWER than '..Said'. Prove '..Said' where nothing that the law and all that it calls make is longer than what came in: it says more and counts as full. Else prove '..UptoSaid'. A law counts once. -/
mutual
def uptoBulk {H : Type} : DataW H → Nat
  | .lit (.string bytes) => bytes.length + 1
  | .lit _ => 1
  | .nil => 1
  | .ptr d => uptoBulk d + 1
  | .slice elems spare => uptoBulkAll elems + uptoBulkAll spare + 1
  | .agg parts => uptoBulkAll parts + 1
  | .iface _ d => uptoBulk d + 1
  | .map entries => uptoBulkEntries entries + 1
  | .held _ => 1
def uptoBulkAll {H : Type} : List (DataW H) → Nat
  | [] => 0
  | d :: r => uptoBulk d + uptoBulkAll r
def uptoBulkEntries {H : Type} : List (Lit × DataW H) → Nat
  | [] => 0
  | x :: r => uptoBulkEntry x + uptoBulkEntries r
def uptoBulkEntry {H : Type} : Lit × DataW H → Nat
  | (.string bytes, d) => bytes.length + uptoBulk d + 1
  | (_, d) => uptoBulk d + 1
 end
def uptoSmall : (H : Type) → List (DataW H) → Bool := fun _ ds => decide (uptoBulkAll ds ≤ 1048576)
def OpenSpec.upto (s : _root_.Go.ChangeSpec) : _root_.Go.OpenSpec := { _root_.Go.OpenSpec.ofChange s with cond := some uptoSmall }

/-- 'dioramalaw02.ExactShifts', WHERE WHAT IT READS IS OF BULK AT MOST 1048576: true; the input reads as it did. -/
def exactShiftsUptoRow : OpenClaim := { program := "ytekommcfpjonmaagreat", sum := "07787c1b6aaca336ef1791c0a5997415e2ae5ad143fc89fc8d48a334cc571ce5", func := "diorama/dioramalaw02.ExactShifts", spec := "exactShifts", unfollowed := true, recurses := true, apart := false, narrowed := true }
def ExactShiftsUptoSaid : Prop := exactShiftsUptoRow.holds Tryz.pinned (OpenSpec.upto exactShiftsSpec)

/-- 'dioramalaw02.ExactCleans', WHERE WHAT IT READS IS OF BULK AT MOST 1048576: true; the input reads as it did. -/
def exactCleansUptoRow : OpenClaim := { program := "ytekommcfpjonmaagreat", sum := "07787c1b6aaca336ef1791c0a5997415e2ae5ad143fc89fc8d48a334cc571ce5", func := "diorama/dioramalaw02.ExactCleans", spec := "exactCleans", unfollowed := true, recurses := true, apart := false, narrowed := true }
def ExactCleansUptoSaid : Prop := exactCleansUptoRow.holds Tryz.pinned (OpenSpec.upto exactCleansSpec)

/-- 'dioramalaw02.ExactUnites', WHERE WHAT IT READS IS OF BULK AT MOST 1048576: true; the input reads as it did. -/
def exactUnitesUptoRow : OpenClaim := { program := "ytekommcfpjonmaagreat", sum := "07787c1b6aaca336ef1791c0a5997415e2ae5ad143fc89fc8d48a334cc571ce5", func := "diorama/dioramalaw02.ExactUnites", spec := "exactUnites", unfollowed := true, recurses := true, apart := false, narrowed := true }
def ExactUnitesUptoSaid : Prop := exactUnitesUptoRow.holds Tryz.pinned (OpenSpec.upto exactUnitesSpec)

/-- 'dioramalaw02.ExactMembers', WHERE WHAT IT READS IS OF BULK AT MOST 1048576: true; the input reads as it did. -/
def exactMembersUptoRow : OpenClaim := { program := "ytekommcfpjonmaagreat", sum := "07787c1b6aaca336ef1791c0a5997415e2ae5ad143fc89fc8d48a334cc571ce5", func := "diorama/dioramalaw02.ExactMembers", spec := "exactMembers", unfollowed := true, recurses := true, apart := false, narrowed := true }
def ExactMembersUptoSaid : Prop := exactMembersUptoRow.holds Tryz.pinned (OpenSpec.upto exactMembersSpec)

/-- 'dioramalaw02.ExactTotals', WHERE WHAT IT READS IS OF BULK AT MOST 1048576: true; the input reads as it did. -/
def exactTotalsUptoRow : OpenClaim := { program := "ytekommcfpjonmaagreat", sum := "07787c1b6aaca336ef1791c0a5997415e2ae5ad143fc89fc8d48a334cc571ce5", func := "diorama/dioramalaw02.ExactTotals", spec := "exactTotals", unfollowed := true, recurses := true, apart := false, narrowed := true }
def ExactTotalsUptoSaid : Prop := exactTotalsUptoRow.holds Tryz.pinned (OpenSpec.upto exactTotalsSpec)

/-- 'dioramalaw10.EditBack', WHERE WHAT IT READS IS OF BULK AT MOST 1048576: true; the input reads as it did. -/
def editBackUptoRow : OpenClaim := { program := "ytekommcfpjonmaagreat", sum := "07787c1b6aaca336ef1791c0a5997415e2ae5ad143fc89fc8d48a334cc571ce5", func := "diorama/dioramalaw10.EditBack", spec := "editBack", unfollowed := true, recurses := true, apart := false, narrowed := true }
def EditBackUptoSaid : Prop := editBackUptoRow.holds Tryz.pinned (OpenSpec.upto editBackSpec)

end Rows
end Go.Proofs.YtekommcfpjonmaaGreat

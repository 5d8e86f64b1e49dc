/-
  No cell of these rows narrows 'for every input' (looked for: loops, veiled, ifaces, maps, wideKeys, modest, calm, conditions, laid).
  DERIVED. THE GIVEN ROWS OF THIS SEAT. 16 by the template 'for every input the law returns true; each argument reads behind the call as it read before'; 0 by the template 'total and deterministic' (their statements: YtpbhepdgamoiaaaTotals.lean).
  GIVEN WITH THE SEED: the statements are not yours to turn. If you find one false, say at which input.
  Laid BY PROGRAM, IN A SANDBOX (cutbox-rows.mjs): the forced cells as the released guide's own fill.sh prints them over the translation ada15dbb951320fd… (all of the seat's roots in one cut). By AI agents, Wed Nov 11 2026. No macro, syntax, notation, axiom, sorry.
-/
import Derived.Test.YtpbhepdgamoiaaaChecked
import GoSem.Claim
import GoSem.ClaimJoined
import GoSem.ClaimMapViews
import Derived.JoinedTies
import Derived.KernelRfl
namespace Go.Proofs.Ytpbhepdgamoiaaa
/- THE CELL 'sum', in the pinned program and in every row, IS THE sha256 OF THE DUMP (.gsa) THAT YtpbhepdgamoiaaaProg.lean LOADS. Nothing in Lean hashes anything: it is a label: what it is worth is what the hold of that sum in a sandbox is worth. -/
noncomputable def Try.pinned : Pinned := { name := "ytpbhepdgamoiaaa", sum := "ada15dbb951320fdf85ceebbdc7320466417bbb4019d48b44e588e3558179f5a", checked := Try.checked }
namespace Rows
def none {H : Type} : Left H := { results := [], args := [] }

/-- 'dioramalaw10.EditChecks': WHATEVER THE INPUT: true; the input reads as it did. -/
def editChecksSpec : ChangeSpec := { name := "editChecks", fn := fun _ => fun
  | [d] => { results := [.lit (.bool true)], args := [d] }
  | _ => none }
def editChecksRow : OpenClaim := { program := "ytpbhepdgamoiaaa", sum := "ada15dbb951320fdf85ceebbdc7320466417bbb4019d48b44e588e3558179f5a", func := "diorama/dioramalaw10.EditChecks", spec := "editChecks", apart := false }
def EditChecksSaid : Prop := editChecksRow.holds Try.pinned (OpenSpec.ofChange editChecksSpec)

/-- ITS FALSE NEIGHBOUR: 'it returns false'. Refute it at one input. -/
def editChecksWrong : ChangeSpec := { name := "editChecks", fn := fun _ => fun
  | [d] => { results := [.lit (.bool false)], args := [d] }
  | _ => none }
def EditChecksWrongFalsely : Prop := editChecksRow.holds Try.pinned (OpenSpec.ofChange editChecksWrong)

/-- 'dioramalaw10.EditFaster': WHATEVER THE INPUT: true; the input reads as it did. -/
def editFasterSpec : ChangeSpec := { name := "editFaster", fn := fun _ => fun
  | [d1, d2, d3] => { results := [.lit (.bool true)], args := [d1, d2, d3] }
  | _ => none }
def editFasterRow : OpenClaim := { program := "ytpbhepdgamoiaaa", sum := "ada15dbb951320fdf85ceebbdc7320466417bbb4019d48b44e588e3558179f5a", func := "diorama/dioramalaw10.EditFaster", spec := "editFaster", apart := false }
def EditFasterSaid : Prop := editFasterRow.holds Try.pinned (OpenSpec.ofChange editFasterSpec)

/-- ITS FALSE NEIGHBOUR: 'it returns false'. Refute it at one input. -/
def editFasterWrong : ChangeSpec := { name := "editFaster", fn := fun _ => fun
  | [d1, d2, d3] => { results := [.lit (.bool false)], args := [d1, d2, d3] }
  | _ => none }
def EditFasterWrongFalsely : Prop := editFasterRow.holds Try.pinned (OpenSpec.ofChange editFasterWrong)

/-- 'dioramalaw10.EditClocks': WHATEVER THE INPUT: true; the input reads as it did. -/
def editClocksSpec : ChangeSpec := { name := "editClocks", fn := fun _ => fun
  | [d1, d2, d3] => { results := [.lit (.bool true)], args := [d1, d2, d3] }
  | _ => none }
def editClocksRow : OpenClaim := { program := "ytpbhepdgamoiaaa", sum := "ada15dbb951320fdf85ceebbdc7320466417bbb4019d48b44e588e3558179f5a", func := "diorama/dioramalaw10.EditClocks", spec := "editClocks", apart := false }
def EditClocksSaid : Prop := editClocksRow.holds Try.pinned (OpenSpec.ofChange editClocksSpec)

/-- ITS FALSE NEIGHBOUR: 'it returns false'. Refute it at one input. -/
def editClocksWrong : ChangeSpec := { name := "editClocks", fn := fun _ => fun
  | [d1, d2, d3] => { results := [.lit (.bool false)], args := [d1, d2, d3] }
  | _ => none }
def EditClocksWrongFalsely : Prop := editClocksRow.holds Try.pinned (OpenSpec.ofChange editClocksWrong)

/-- 'dioramalaw10.EditMedia': WHATEVER THE INPUT: true; the input reads as it did. -/
def editMediaSpec : ChangeSpec := { name := "editMedia", fn := fun _ => fun
  | [d1, d2] => { results := [.lit (.bool true)], args := [d1, d2] }
  | _ => none }
def editMediaRow : OpenClaim := { program := "ytpbhepdgamoiaaa", sum := "ada15dbb951320fdf85ceebbdc7320466417bbb4019d48b44e588e3558179f5a", func := "diorama/dioramalaw10.EditMedia", spec := "editMedia", apart := false }
def EditMediaSaid : Prop := editMediaRow.holds Try.pinned (OpenSpec.ofChange editMediaSpec)

/-- ITS FALSE NEIGHBOUR: 'it returns false'. Refute it at one input. -/
def editMediaWrong : ChangeSpec := { name := "editMedia", fn := fun _ => fun
  | [d1, d2] => { results := [.lit (.bool false)], args := [d1, d2] }
  | _ => none }
def EditMediaWrongFalsely : Prop := editMediaRow.holds Try.pinned (OpenSpec.ofChange editMediaWrong)

/-- 'dioramalaw10.EditEqual': WHATEVER THE INPUT: true; the input reads as it did. -/
def editEqualSpec : ChangeSpec := { name := "editEqual", fn := fun _ => fun
  | [d1, d2, d3] => { results := [.lit (.bool true)], args := [d1, d2, d3] }
  | _ => none }
def editEqualRow : OpenClaim := { program := "ytpbhepdgamoiaaa", sum := "ada15dbb951320fdf85ceebbdc7320466417bbb4019d48b44e588e3558179f5a", func := "diorama/dioramalaw10.EditEqual", spec := "editEqual", apart := false }
def EditEqualSaid : Prop := editEqualRow.holds Try.pinned (OpenSpec.ofChange editEqualSpec)

/-- ITS FALSE NEIGHBOUR: 'it returns false'. Refute it at one input. -/
def editEqualWrong : ChangeSpec := { name := "editEqual", fn := fun _ => fun
  | [d1, d2, d3] => { results := [.lit (.bool false)], args := [d1, d2, d3] }
  | _ => none }
def EditEqualWrongFalsely : Prop := editEqualRow.holds Try.pinned (OpenSpec.ofChange editEqualWrong)

/-- 'dioramalaw10.EditSpeeds': WHATEVER THE INPUT: true; the input reads as it did. -/
def editSpeedsSpec : ChangeSpec := { name := "editSpeeds", fn := fun _ => fun
  | [d1, d2, d3] => { results := [.lit (.bool true)], args := [d1, d2, d3] }
  | _ => none }
def editSpeedsRow : OpenClaim := { program := "ytpbhepdgamoiaaa", sum := "ada15dbb951320fdf85ceebbdc7320466417bbb4019d48b44e588e3558179f5a", func := "diorama/dioramalaw10.EditSpeeds", spec := "editSpeeds", apart := false }
def EditSpeedsSaid : Prop := editSpeedsRow.holds Try.pinned (OpenSpec.ofChange editSpeedsSpec)

/-- ITS FALSE NEIGHBOUR: 'it returns false'. Refute it at one input. -/
def editSpeedsWrong : ChangeSpec := { name := "editSpeeds", fn := fun _ => fun
  | [d1, d2, d3] => { results := [.lit (.bool false)], args := [d1, d2, d3] }
  | _ => none }
def EditSpeedsWrongFalsely : Prop := editSpeedsRow.holds Try.pinned (OpenSpec.ofChange editSpeedsWrong)

/-- 'dioramalaw10.EditOther': WHATEVER THE INPUT: true; the input reads as it did. -/
def editOtherSpec : ChangeSpec := { name := "editOther", fn := fun _ => fun
  | [d1, d2, d3] => { results := [.lit (.bool true)], args := [d1, d2, d3] }
  | _ => none }
def editOtherRow : OpenClaim := { program := "ytpbhepdgamoiaaa", sum := "ada15dbb951320fdf85ceebbdc7320466417bbb4019d48b44e588e3558179f5a", func := "diorama/dioramalaw10.EditOther", spec := "editOther", apart := false }
def EditOtherSaid : Prop := editOtherRow.holds Try.pinned (OpenSpec.ofChange editOtherSpec)

/-- ITS FALSE NEIGHBOUR: 'it returns false'. Refute it at one input. -/
def editOtherWrong : ChangeSpec := { name := "editOther", fn := fun _ => fun
  | [d1, d2, d3] => { results := [.lit (.bool false)], args := [d1, d2, d3] }
  | _ => none }
def EditOtherWrongFalsely : Prop := editOtherRow.holds Try.pinned (OpenSpec.ofChange editOtherWrong)

/-- 'dioramalaw10.EditCuts': WHATEVER THE INPUT: true; the input reads as it did. -/
def editCutsSpec : ChangeSpec := { name := "editCuts", fn := fun _ => fun
  | [d1, d2, d3] => { results := [.lit (.bool true)], args := [d1, d2, d3] }
  | _ => none }
def editCutsRow : OpenClaim := { program := "ytpbhepdgamoiaaa", sum := "ada15dbb951320fdf85ceebbdc7320466417bbb4019d48b44e588e3558179f5a", func := "diorama/dioramalaw10.EditCuts", spec := "editCuts", apart := false }
def EditCutsSaid : Prop := editCutsRow.holds Try.pinned (OpenSpec.ofChange editCutsSpec)

/-- ITS FALSE NEIGHBOUR: 'it returns false'. Refute it at one input. -/
def editCutsWrong : ChangeSpec := { name := "editCuts", fn := fun _ => fun
  | [d1, d2, d3] => { results := [.lit (.bool false)], args := [d1, d2, d3] }
  | _ => none }
def EditCutsWrongFalsely : Prop := editCutsRow.holds Try.pinned (OpenSpec.ofChange editCutsWrong)

/-- 'dioramalaw10.EditSame': WHATEVER THE INPUT: true; the input reads as it did. -/
def editSameSpec : ChangeSpec := { name := "editSame", fn := fun _ => fun
  | [d1, d2] => { results := [.lit (.bool true)], args := [d1, d2] }
  | _ => none }
def editSameRow : OpenClaim := { program := "ytpbhepdgamoiaaa", sum := "ada15dbb951320fdf85ceebbdc7320466417bbb4019d48b44e588e3558179f5a", func := "diorama/dioramalaw10.EditSame", spec := "editSame", apart := false }
def EditSameSaid : Prop := editSameRow.holds Try.pinned (OpenSpec.ofChange editSameSpec)

/-- ITS FALSE NEIGHBOUR: 'it returns false'. Refute it at one input. -/
def editSameWrong : ChangeSpec := { name := "editSame", fn := fun _ => fun
  | [d1, d2] => { results := [.lit (.bool false)], args := [d1, d2] }
  | _ => none }
def EditSameWrongFalsely : Prop := editSameRow.holds Try.pinned (OpenSpec.ofChange editSameWrong)

/-- 'dioramalaw10.EditLater': WHATEVER THE INPUT: true; the input reads as it did. -/
def editLaterSpec : ChangeSpec := { name := "editLater", fn := fun _ => fun
  | [d] => { results := [.lit (.bool true)], args := [d] }
  | _ => none }
def editLaterRow : OpenClaim := { program := "ytpbhepdgamoiaaa", sum := "ada15dbb951320fdf85ceebbdc7320466417bbb4019d48b44e588e3558179f5a", func := "diorama/dioramalaw10.EditLater", spec := "editLater", apart := false }
def EditLaterSaid : Prop := editLaterRow.holds Try.pinned (OpenSpec.ofChange editLaterSpec)

/-- ITS FALSE NEIGHBOUR: 'it returns false'. Refute it at one input. -/
def editLaterWrong : ChangeSpec := { name := "editLater", fn := fun _ => fun
  | [d] => { results := [.lit (.bool false)], args := [d] }
  | _ => none }
def EditLaterWrongFalsely : Prop := editLaterRow.holds Try.pinned (OpenSpec.ofChange editLaterWrong)

/-- 'dioramalaw10.EditInstants': WHATEVER THE INPUT: true; the input reads as it did. -/
def editInstantsSpec : ChangeSpec := { name := "editInstants", fn := fun _ => fun
  | [d1, d2] => { results := [.lit (.bool true)], args := [d1, d2] }
  | _ => none }
def editInstantsRow : OpenClaim := { program := "ytpbhepdgamoiaaa", sum := "ada15dbb951320fdf85ceebbdc7320466417bbb4019d48b44e588e3558179f5a", func := "diorama/dioramalaw10.EditInstants", spec := "editInstants", apart := false }
def EditInstantsSaid : Prop := editInstantsRow.holds Try.pinned (OpenSpec.ofChange editInstantsSpec)

/-- ITS FALSE NEIGHBOUR: 'it returns false'. Refute it at one input. -/
def editInstantsWrong : ChangeSpec := { name := "editInstants", fn := fun _ => fun
  | [d1, d2] => { results := [.lit (.bool false)], args := [d1, d2] }
  | _ => none }
def EditInstantsWrongFalsely : Prop := editInstantsRow.holds Try.pinned (OpenSpec.ofChange editInstantsWrong)

/-- 'dioramalaw10.EditFound': WHATEVER THE INPUT: true; the input reads as it did. -/
def editFoundSpec : ChangeSpec := { name := "editFound", fn := fun _ => fun
  | [d1, d2] => { results := [.lit (.bool true)], args := [d1, d2] }
  | _ => none }
def editFoundRow : OpenClaim := { program := "ytpbhepdgamoiaaa", sum := "ada15dbb951320fdf85ceebbdc7320466417bbb4019d48b44e588e3558179f5a", func := "diorama/dioramalaw10.EditFound", spec := "editFound", apart := false }
def EditFoundSaid : Prop := editFoundRow.holds Try.pinned (OpenSpec.ofChange editFoundSpec)

/-- ITS FALSE NEIGHBOUR: 'it returns false'. Refute it at one input. -/
def editFoundWrong : ChangeSpec := { name := "editFound", fn := fun _ => fun
  | [d1, d2] => { results := [.lit (.bool false)], args := [d1, d2] }
  | _ => none }
def EditFoundWrongFalsely : Prop := editFoundRow.holds Try.pinned (OpenSpec.ofChange editFoundWrong)

/-- 'dioramalaw10.EditParts': WHATEVER THE INPUT: true; the input reads as it did. -/
def editPartsSpec : ChangeSpec := { name := "editParts", fn := fun _ => fun
  | [d1, d2, d3] => { results := [.lit (.bool true)], args := [d1, d2, d3] }
  | _ => none }
def editPartsRow : OpenClaim := { program := "ytpbhepdgamoiaaa", sum := "ada15dbb951320fdf85ceebbdc7320466417bbb4019d48b44e588e3558179f5a", func := "diorama/dioramalaw10.EditParts", spec := "editParts", apart := false }
def EditPartsSaid : Prop := editPartsRow.holds Try.pinned (OpenSpec.ofChange editPartsSpec)

/-- ITS FALSE NEIGHBOUR: 'it returns false'. Refute it at one input. -/
def editPartsWrong : ChangeSpec := { name := "editParts", fn := fun _ => fun
  | [d1, d2, d3] => { results := [.lit (.bool false)], args := [d1, d2, d3] }
  | _ => none }
def EditPartsWrongFalsely : Prop := editPartsRow.holds Try.pinned (OpenSpec.ofChange editPartsWrong)

/-- 'dioramalaw10.EditJoins': WHATEVER THE INPUT: true; the input reads as it did. -/
def editJoinsSpec : ChangeSpec := { name := "editJoins", fn := fun _ => fun
  | [d1, d2, d3] => { results := [.lit (.bool true)], args := [d1, d2, d3] }
  | _ => none }
def editJoinsRow : OpenClaim := { program := "ytpbhepdgamoiaaa", sum := "ada15dbb951320fdf85ceebbdc7320466417bbb4019d48b44e588e3558179f5a", func := "diorama/dioramalaw10.EditJoins", spec := "editJoins", apart := false }
def EditJoinsSaid : Prop := editJoinsRow.holds Try.pinned (OpenSpec.ofChange editJoinsSpec)

/-- ITS FALSE NEIGHBOUR: 'it returns false'. Refute it at one input. -/
def editJoinsWrong : ChangeSpec := { name := "editJoins", fn := fun _ => fun
  | [d1, d2, d3] => { results := [.lit (.bool false)], args := [d1, d2, d3] }
  | _ => none }
def EditJoinsWrongFalsely : Prop := editJoinsRow.holds Try.pinned (OpenSpec.ofChange editJoinsWrong)

/-- 'dioramalaw10.EditWhole': WHATEVER THE INPUT: true; the input reads as it did. -/
def editWholeSpec : ChangeSpec := { name := "editWhole", fn := fun _ => fun
  | [d1, d2] => { results := [.lit (.bool true)], args := [d1, d2] }
  | _ => none }
def editWholeRow : OpenClaim := { program := "ytpbhepdgamoiaaa", sum := "ada15dbb951320fdf85ceebbdc7320466417bbb4019d48b44e588e3558179f5a", func := "diorama/dioramalaw10.EditWhole", spec := "editWhole", apart := false }
def EditWholeSaid : Prop := editWholeRow.holds Try.pinned (OpenSpec.ofChange editWholeSpec)

/-- ITS FALSE NEIGHBOUR: 'it returns false'. Refute it at one input. -/
def editWholeWrong : ChangeSpec := { name := "editWhole", fn := fun _ => fun
  | [d1, d2] => { results := [.lit (.bool false)], args := [d1, d2] }
  | _ => none }
def EditWholeWrongFalsely : Prop := editWholeRow.holds Try.pinned (OpenSpec.ofChange editWholeWrong)

/-- 'dioramalaw10.EditChains': WHATEVER THE INPUT: true; the input reads as it did. -/
def editChainsSpec : ChangeSpec := { name := "editChains", fn := fun _ => fun
  | [d1, d2, d3] => { results := [.lit (.bool true)], args := [d1, d2, d3] }
  | _ => none }
def editChainsRow : OpenClaim := { program := "ytpbhepdgamoiaaa", sum := "ada15dbb951320fdf85ceebbdc7320466417bbb4019d48b44e588e3558179f5a", func := "diorama/dioramalaw10.EditChains", spec := "editChains", apart := false }
def EditChainsSaid : Prop := editChainsRow.holds Try.pinned (OpenSpec.ofChange editChainsSpec)

/-- ITS FALSE NEIGHBOUR: 'it returns false'. Refute it at one input. -/
def editChainsWrong : ChangeSpec := { name := "editChains", fn := fun _ => fun
  | [d1, d2, d3] => { results := [.lit (.bool false)], args := [d1, d2, d3] }
  | _ => none }
def EditChainsWrongFalsely : Prop := editChainsRow.holds Try.pinned (OpenSpec.ofChange editChainsWrong)

/- THE SECOND FORM. 'bulk': how many values and letters a reading holds, each counted each time it is reached (what is shared counts as often as it is met; a slice's spare places count too). A statement '..UptoSaid' is the law's where the arguments, and the package variables that the reading takes, are together of bulk at most 1048576: NARROWER than '..Said'. Prove '..Said' where nothing that the law and all that it calls make is longer than what came in: it says more and counts as full. Else prove '..UptoSaid'. A law counts once. -/
mutual
def uptoBulk {H : Type} : DataW H → Nat
  | .lit (.string bytes) => bytes.length + 1
  | .lit _ => 1
  | .nil => 1
  | .ptr d => uptoBulk d + 1
  | .slice elems spare => uptoBulkAll elems + uptoBulkAll spare + 1
  | .agg parts => uptoBulkAll parts + 1
  | .iface _ d => uptoBulk d + 1
  | .map entries => uptoBulkEntries entries + 1
  | .held _ => 1
def uptoBulkAll {H : Type} : List (DataW H) → Nat
  | [] => 0
  | d :: r => uptoBulk d + uptoBulkAll r
def uptoBulkEntries {H : Type} : List (Lit × DataW H) → Nat
  | [] => 0
  | x :: r => uptoBulkEntry x + uptoBulkEntries r
def uptoBulkEntry {H : Type} : Lit × DataW H → Nat
  | (.string bytes, d) => bytes.length + uptoBulk d + 1
  | (_, d) => uptoBulk d + 1
 end
def uptoSmall : (H : Type) → List (DataW H) → Bool := fun _ ds => decide (uptoBulkAll ds ≤ 1048576)
def OpenSpec.upto (s : _root_.Go.ChangeSpec) : _root_.Go.OpenSpec := { _root_.Go.OpenSpec.ofChange s with cond := some uptoSmall }

/-- 'dioramalaw10.EditChecks', WHERE WHAT IT READS IS OF BULK AT MOST 1048576: true; the input reads as it did. -/
def editChecksUptoRow : OpenClaim := { program := "ytpbhepdgamoiaaa", sum := "ada15dbb951320fdf85ceebbdc7320466417bbb4019d48b44e588e3558179f5a", func := "diorama/dioramalaw10.EditChecks", spec := "editChecks", apart := false, narrowed := true }
def EditChecksUptoSaid : Prop := editChecksUptoRow.holds Try.pinned (OpenSpec.upto editChecksSpec)

/-- 'dioramalaw10.EditFaster', WHERE WHAT IT READS IS OF BULK AT MOST 1048576: true; the input reads as it did. -/
def editFasterUptoRow : OpenClaim := { program := "ytpbhepdgamoiaaa", sum := "ada15dbb951320fdf85ceebbdc7320466417bbb4019d48b44e588e3558179f5a", func := "diorama/dioramalaw10.EditFaster", spec := "editFaster", apart := false, narrowed := true }
def EditFasterUptoSaid : Prop := editFasterUptoRow.holds Try.pinned (OpenSpec.upto editFasterSpec)

/-- 'dioramalaw10.EditClocks', WHERE WHAT IT READS IS OF BULK AT MOST 1048576: true; the input reads as it did. -/
def editClocksUptoRow : OpenClaim := { program := "ytpbhepdgamoiaaa", sum := "ada15dbb951320fdf85ceebbdc7320466417bbb4019d48b44e588e3558179f5a", func := "diorama/dioramalaw10.EditClocks", spec := "editClocks", apart := false, narrowed := true }
def EditClocksUptoSaid : Prop := editClocksUptoRow.holds Try.pinned (OpenSpec.upto editClocksSpec)

/-- 'dioramalaw10.EditMedia', WHERE WHAT IT READS IS OF BULK AT MOST 1048576: true; the input reads as it did. -/
def editMediaUptoRow : OpenClaim := { program := "ytpbhepdgamoiaaa", sum := "ada15dbb951320fdf85ceebbdc7320466417bbb4019d48b44e588e3558179f5a", func := "diorama/dioramalaw10.EditMedia", spec := "editMedia", apart := false, narrowed := true }
def EditMediaUptoSaid : Prop := editMediaUptoRow.holds Try.pinned (OpenSpec.upto editMediaSpec)

/-- 'dioramalaw10.EditEqual', WHERE WHAT IT READS IS OF BULK AT MOST 1048576: true; the input reads as it did. -/
def editEqualUptoRow : OpenClaim := { program := "ytpbhepdgamoiaaa", sum := "ada15dbb951320fdf85ceebbdc7320466417bbb4019d48b44e588e3558179f5a", func := "diorama/dioramalaw10.EditEqual", spec := "editEqual", apart := false, narrowed := true }
def EditEqualUptoSaid : Prop := editEqualUptoRow.holds Try.pinned (OpenSpec.upto editEqualSpec)

/-- 'dioramalaw10.EditSpeeds', WHERE WHAT IT READS IS OF BULK AT MOST 1048576: true; the input reads as it did. -/
def editSpeedsUptoRow : OpenClaim := { program := "ytpbhepdgamoiaaa", sum := "ada15dbb951320fdf85ceebbdc7320466417bbb4019d48b44e588e3558179f5a", func := "diorama/dioramalaw10.EditSpeeds", spec := "editSpeeds", apart := false, narrowed := true }
def EditSpeedsUptoSaid : Prop := editSpeedsUptoRow.holds Try.pinned (OpenSpec.upto editSpeedsSpec)

/-- 'dioramalaw10.EditOther', WHERE WHAT IT READS IS OF BULK AT MOST 1048576: true; the input reads as it did. -/
def editOtherUptoRow : OpenClaim := { program := "ytpbhepdgamoiaaa", sum := "ada15dbb951320fdf85ceebbdc7320466417bbb4019d48b44e588e3558179f5a", func := "diorama/dioramalaw10.EditOther", spec := "editOther", apart := false, narrowed := true }
def EditOtherUptoSaid : Prop := editOtherUptoRow.holds Try.pinned (OpenSpec.upto editOtherSpec)

/-- 'dioramalaw10.EditCuts', WHERE WHAT IT READS IS OF BULK AT MOST 1048576: true; the input reads as it did. -/
def editCutsUptoRow : OpenClaim := { program := "ytpbhepdgamoiaaa", sum := "ada15dbb951320fdf85ceebbdc7320466417bbb4019d48b44e588e3558179f5a", func := "diorama/dioramalaw10.EditCuts", spec := "editCuts", apart := false, narrowed := true }
def EditCutsUptoSaid : Prop := editCutsUptoRow.holds Try.pinned (OpenSpec.upto editCutsSpec)

/-- 'dioramalaw10.EditSame', WHERE WHAT IT READS IS OF BULK AT MOST 1048576: true; the input reads as it did. -/
def editSameUptoRow : OpenClaim := { program := "ytpbhepdgamoiaaa", sum := "ada15dbb951320fdf85ceebbdc7320466417bbb4019d48b44e588e3558179f5a", func := "diorama/dioramalaw10.EditSame", spec := "editSame", apart := false, narrowed := true }
def EditSameUptoSaid : Prop := editSameUptoRow.holds Try.pinned (OpenSpec.upto editSameSpec)

/-- 'dioramalaw10.EditLater', WHERE WHAT IT READS IS OF BULK AT MOST 1048576: true; the input reads as it did. -/
def editLaterUptoRow : OpenClaim := { program := "ytpbhepdgamoiaaa", sum := "ada15dbb951320fdf85ceebbdc7320466417bbb4019d48b44e588e3558179f5a", func := "diorama/dioramalaw10.EditLater", spec := "editLater", apart := false, narrowed := true }
def EditLaterUptoSaid : Prop := editLaterUptoRow.holds Try.pinned (OpenSpec.upto editLaterSpec)

/-- 'dioramalaw10.EditInstants', WHERE WHAT IT READS IS OF BULK AT MOST 1048576: true; the input reads as it did. -/
def editInstantsUptoRow : OpenClaim := { program := "ytpbhepdgamoiaaa", sum := "ada15dbb951320fdf85ceebbdc7320466417bbb4019d48b44e588e3558179f5a", func := "diorama/dioramalaw10.EditInstants", spec := "editInstants", apart := false, narrowed := true }
def EditInstantsUptoSaid : Prop := editInstantsUptoRow.holds Try.pinned (OpenSpec.upto editInstantsSpec)

/-- 'dioramalaw10.EditFound', WHERE WHAT IT READS IS OF BULK AT MOST 1048576: true; the input reads as it did. -/
def editFoundUptoRow : OpenClaim := { program := "ytpbhepdgamoiaaa", sum := "ada15dbb951320fdf85ceebbdc7320466417bbb4019d48b44e588e3558179f5a", func := "diorama/dioramalaw10.EditFound", spec := "editFound", apart := false, narrowed := true }
def EditFoundUptoSaid : Prop := editFoundUptoRow.holds Try.pinned (OpenSpec.upto editFoundSpec)

/-- 'dioramalaw10.EditParts', WHERE WHAT IT READS IS OF BULK AT MOST 1048576: true; the input reads as it did. -/
def editPartsUptoRow : OpenClaim := { program := "ytpbhepdgamoiaaa", sum := "ada15dbb951320fdf85ceebbdc7320466417bbb4019d48b44e588e3558179f5a", func := "diorama/dioramalaw10.EditParts", spec := "editParts", apart := false, narrowed := true }
def EditPartsUptoSaid : Prop := editPartsUptoRow.holds Try.pinned (OpenSpec.upto editPartsSpec)

/-- 'dioramalaw10.EditJoins', WHERE WHAT IT READS IS OF BULK AT MOST 1048576: true; the input reads as it did. -/
def editJoinsUptoRow : OpenClaim := { program := "ytpbhepdgamoiaaa", sum := "ada15dbb951320fdf85ceebbdc7320466417bbb4019d48b44e588e3558179f5a", func := "diorama/dioramalaw10.EditJoins", spec := "editJoins", apart := false, narrowed := true }
def EditJoinsUptoSaid : Prop := editJoinsUptoRow.holds Try.pinned (OpenSpec.upto editJoinsSpec)

/-- 'dioramalaw10.EditWhole', WHERE WHAT IT READS IS OF BULK AT MOST 1048576: true; the input reads as it did. -/
def editWholeUptoRow : OpenClaim := { program := "ytpbhepdgamoiaaa", sum := "ada15dbb951320fdf85ceebbdc7320466417bbb4019d48b44e588e3558179f5a", func := "diorama/dioramalaw10.EditWhole", spec := "editWhole", apart := false, narrowed := true }
def EditWholeUptoSaid : Prop := editWholeUptoRow.holds Try.pinned (OpenSpec.upto editWholeSpec)

/-- 'dioramalaw10.EditChains', WHERE WHAT IT READS IS OF BULK AT MOST 1048576: true; the input reads as it did. -/
def editChainsUptoRow : OpenClaim := { program := "ytpbhepdgamoiaaa", sum := "ada15dbb951320fdf85ceebbdc7320466417bbb4019d48b44e588e3558179f5a", func := "diorama/dioramalaw10.EditChains", spec := "editChains", apart := false, narrowed := true }
def EditChainsUptoSaid : Prop := editChainsUptoRow.holds Try.pinned (OpenSpec.upto editChainsSpec)

end Rows
end Go.Proofs.Ytpbhepdgamoiaaa

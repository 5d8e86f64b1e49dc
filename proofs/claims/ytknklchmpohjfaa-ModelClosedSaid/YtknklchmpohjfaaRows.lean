/-
  NARROWER THAN 'FOR EVERY INPUT', by the rows' own cells (each row's printed sentence says how): ModelChecks: loops · ModelMerges: loops.
  DERIVED. THE GIVEN ROWS OF THIS SEAT. 5 by the template 'for every input the law returns true; each argument reads behind the call as it read before'; 0 by the template 'total and deterministic' (their statements: YtknklchmpohjfaaTotals.lean).
  GIVEN WITH THE SEED: the statements are not yours to turn. If you find one false, say at which input.
  Laid BY PROGRAM, IN A SANDBOX (cutbox-rows.mjs): the forced cells as the released guide's own fill.sh prints them over the translation 1ce5fc637726c513… (all of the seat's roots in one cut). By AI agents, Wed Nov 11 2026. No macro, syntax, notation, axiom, sorry.
-/
import Derived.Test.YtknklchmpohjfaaChecked
import GoSem.Claim
import GoSem.ClaimJoined
import GoSem.ClaimMapViews
import Derived.JoinedTies
import Derived.KernelRfl
namespace Go.Proofs.Ytknklchmpohjfaa
/- THE CELL 'sum', in the pinned program and in every row, IS THE sha256 OF THE DUMP (.gsa) THAT YtknklchmpohjfaaProg.lean LOADS. Nothing in Lean hashes anything: it is a label: what it is worth is what the hold of that sum in a sandbox is worth. -/
noncomputable def Try.pinned : Pinned := { name := "ytknklchmpohjfaa", sum := "1ce5fc637726c513195dd973a5d613247c5a785ec9aa670a38327aba5105a198", checked := Try.checked }
namespace Rows
def none {H : Type} : Left H := { results := [], args := [] }

/-- 'dioramalaw03.ModelChecks': WHATEVER THE INPUT: true; the input reads as it did. -/
def modelChecksSpec : ChangeSpec := { name := "modelChecks", fn := fun _ => fun
  | [d1, d2] => { results := [.lit (.bool true)], args := [d1, d2] }
  | _ => none }
def modelChecksRow : OpenClaim := { program := "ytknklchmpohjfaa", sum := "1ce5fc637726c513195dd973a5d613247c5a785ec9aa670a38327aba5105a198", func := "diorama/dioramalaw03.ModelChecks", spec := "modelChecks", unfollowed := true, recurses := true, loops := true, plainKeys := false, apart := false }
def ModelChecksSaid : Prop := modelChecksRow.holds Try.pinned (OpenSpec.ofChange modelChecksSpec)

/-- ITS FALSE NEIGHBOUR: 'it returns false'. Refute it at one input. -/
def modelChecksWrong : ChangeSpec := { name := "modelChecks", fn := fun _ => fun
  | [d1, d2] => { results := [.lit (.bool false)], args := [d1, d2] }
  | _ => none }
def ModelChecksWrongFalsely : Prop := modelChecksRow.holds Try.pinned (OpenSpec.ofChange modelChecksWrong)

/-- 'dioramalaw03.ModelNeeds': WHATEVER THE INPUT: true; the input reads as it did. -/
def modelNeedsSpec : ChangeSpec := { name := "modelNeeds", fn := fun _ => fun
  | [d1, d2] => { results := [.lit (.bool true)], args := [d1, d2] }
  | _ => none }
def modelNeedsRow : OpenClaim := { program := "ytknklchmpohjfaa", sum := "1ce5fc637726c513195dd973a5d613247c5a785ec9aa670a38327aba5105a198", func := "diorama/dioramalaw03.ModelNeeds", spec := "modelNeeds", unfollowed := true, recurses := true, plainKeys := false, apart := false }
def ModelNeedsSaid : Prop := modelNeedsRow.holds Try.pinned (OpenSpec.ofChange modelNeedsSpec)

/-- ITS FALSE NEIGHBOUR: 'it returns false'. Refute it at one input. -/
def modelNeedsWrong : ChangeSpec := { name := "modelNeeds", fn := fun _ => fun
  | [d1, d2] => { results := [.lit (.bool false)], args := [d1, d2] }
  | _ => none }
def ModelNeedsWrongFalsely : Prop := modelNeedsRow.holds Try.pinned (OpenSpec.ofChange modelNeedsWrong)

/-- 'dioramalaw03.ModelClosed': WHATEVER THE INPUT: true; the input reads as it did. -/
def modelClosedSpec : ChangeSpec := { name := "modelClosed", fn := fun _ => fun
  | [d] => { results := [.lit (.bool true)], args := [d] }
  | _ => none }
def modelClosedRow : OpenClaim := { program := "ytknklchmpohjfaa", sum := "1ce5fc637726c513195dd973a5d613247c5a785ec9aa670a38327aba5105a198", func := "diorama/dioramalaw03.ModelClosed", spec := "modelClosed", unfollowed := true, recurses := true, plainKeys := false, apart := false }
def ModelClosedSaid : Prop := modelClosedRow.holds Try.pinned (OpenSpec.ofChange modelClosedSpec)

/-- ITS FALSE NEIGHBOUR: 'it returns false'. Refute it at one input. -/
def modelClosedWrong : ChangeSpec := { name := "modelClosed", fn := fun _ => fun
  | [d] => { results := [.lit (.bool false)], args := [d] }
  | _ => none }
def ModelClosedWrongFalsely : Prop := modelClosedRow.holds Try.pinned (OpenSpec.ofChange modelClosedWrong)

/-- 'dioramalaw03.ModelMerges': WHATEVER THE INPUT: true; the input reads as it did. -/
def modelMergesSpec : ChangeSpec := { name := "modelMerges", fn := fun _ => fun
  | [d] => { results := [.lit (.bool true)], args := [d] }
  | _ => none }
def modelMergesRow : OpenClaim := { program := "ytknklchmpohjfaa", sum := "1ce5fc637726c513195dd973a5d613247c5a785ec9aa670a38327aba5105a198", func := "diorama/dioramalaw03.ModelMerges", spec := "modelMerges", unfollowed := true, recurses := true, loops := true, plainKeys := false, apart := false }
def ModelMergesSaid : Prop := modelMergesRow.holds Try.pinned (OpenSpec.ofChange modelMergesSpec)

/-- ITS FALSE NEIGHBOUR: 'it returns false'. Refute it at one input. -/
def modelMergesWrong : ChangeSpec := { name := "modelMerges", fn := fun _ => fun
  | [d] => { results := [.lit (.bool false)], args := [d] }
  | _ => none }
def ModelMergesWrongFalsely : Prop := modelMergesRow.holds Try.pinned (OpenSpec.ofChange modelMergesWrong)

/-- 'dioramalaw03.ModelTracks': WHATEVER THE INPUT: true; the input reads as it did. -/
def modelTracksSpec : ChangeSpec := { name := "modelTracks", fn := fun _ => fun
  | [d] => { results := [.lit (.bool true)], args := [d] }
  | _ => none }
def modelTracksRow : OpenClaim := { program := "ytknklchmpohjfaa", sum := "1ce5fc637726c513195dd973a5d613247c5a785ec9aa670a38327aba5105a198", func := "diorama/dioramalaw03.ModelTracks", spec := "modelTracks", unfollowed := true, recurses := true, plainKeys := false, apart := false }
def ModelTracksSaid : Prop := modelTracksRow.holds Try.pinned (OpenSpec.ofChange modelTracksSpec)

/-- ITS FALSE NEIGHBOUR: 'it returns false'. Refute it at one input. -/
def modelTracksWrong : ChangeSpec := { name := "modelTracks", fn := fun _ => fun
  | [d] => { results := [.lit (.bool false)], args := [d] }
  | _ => none }
def ModelTracksWrongFalsely : Prop := modelTracksRow.holds Try.pinned (OpenSpec.ofChange modelTracksWrong)

/- THE SECOND FORM. 'bulk': how many values and letters a reading holds, each counted each time it is reached (what is shared counts as often as it is met; a slice's spare places count too). A statement '..UptoSaid' is the law's where the arguments, and the package variables that the reading takes, are together of bulk at most 1048576: NARROWER than '..Said'. Prove '..Said' where nothing that the law and all that it calls make is longer than what came in: it says more and counts as full. Else prove '..UptoSaid'. A law counts once. -/
mutual
def uptoBulk {H : Type} : DataW H → Nat
  | .lit (.string bytes) => bytes.length + 1
  | .lit _ => 1
  | .nil => 1
  | .ptr d => uptoBulk d + 1
  | .slice elems spare => uptoBulkAll elems + uptoBulkAll spare + 1
  | .agg parts => uptoBulkAll parts + 1
  | .iface _ d => uptoBulk d + 1
  | .map entries => uptoBulkEntries entries + 1
  | .held _ => 1
def uptoBulkAll {H : Type} : List (DataW H) → Nat
  | [] => 0
  | d :: r => uptoBulk d + uptoBulkAll r
def uptoBulkEntries {H : Type} : List (Lit × DataW H) → Nat
  | [] => 0
  | x :: r => uptoBulkEntry x + uptoBulkEntries r
def uptoBulkEntry {H : Type} : Lit × DataW H → Nat
  | (.string bytes, d) => bytes.length + uptoBulk d + 1
  | (_, d) => uptoBulk d + 1
 end
def uptoSmall : (H : Type) → List (DataW H) → Bool := fun _ ds => decide (uptoBulkAll ds ≤ 1048576)
def OpenSpec.upto (s : _root_.Go.ChangeSpec) : _root_.Go.OpenSpec := { _root_.Go.OpenSpec.ofChange s with cond := some uptoSmall }

/-- 'dioramalaw03.ModelChecks', WHERE WHAT IT READS IS OF BULK AT MOST 1048576: true; the input reads as it did. -/
def modelChecksUptoRow : OpenClaim := { program := "ytknklchmpohjfaa", sum := "1ce5fc637726c513195dd973a5d613247c5a785ec9aa670a38327aba5105a198", func := "diorama/dioramalaw03.ModelChecks", spec := "modelChecks", unfollowed := true, recurses := true, loops := true, plainKeys := false, apart := false, narrowed := true }
def ModelChecksUptoSaid : Prop := modelChecksUptoRow.holds Try.pinned (OpenSpec.upto modelChecksSpec)

/-- 'dioramalaw03.ModelNeeds', WHERE WHAT IT READS IS OF BULK AT MOST 1048576: true; the input reads as it did. -/
def modelNeedsUptoRow : OpenClaim := { program := "ytknklchmpohjfaa", sum := "1ce5fc637726c513195dd973a5d613247c5a785ec9aa670a38327aba5105a198", func := "diorama/dioramalaw03.ModelNeeds", spec := "modelNeeds", unfollowed := true, recurses := true, plainKeys := false, apart := false, narrowed := true }
def ModelNeedsUptoSaid : Prop := modelNeedsUptoRow.holds Try.pinned (OpenSpec.upto modelNeedsSpec)

/-- 'dioramalaw03.ModelClosed', WHERE WHAT IT READS IS OF BULK AT MOST 1048576: true; the input reads as it did. -/
def modelClosedUptoRow : OpenClaim := { program := "ytknklchmpohjfaa", sum := "1ce5fc637726c513195dd973a5d613247c5a785ec9aa670a38327aba5105a198", func := "diorama/dioramalaw03.ModelClosed", spec := "modelClosed", unfollowed := true, recurses := true, plainKeys := false, apart := false, narrowed := true }
def ModelClosedUptoSaid : Prop := modelClosedUptoRow.holds Try.pinned (OpenSpec.upto modelClosedSpec)

/-- 'dioramalaw03.ModelMerges', WHERE WHAT IT READS IS OF BULK AT MOST 1048576: true; the input reads as it did. -/
def modelMergesUptoRow : OpenClaim := { program := "ytknklchmpohjfaa", sum := "1ce5fc637726c513195dd973a5d613247c5a785ec9aa670a38327aba5105a198", func := "diorama/dioramalaw03.ModelMerges", spec := "modelMerges", unfollowed := true, recurses := true, loops := true, plainKeys := false, apart := false, narrowed := true }
def ModelMergesUptoSaid : Prop := modelMergesUptoRow.holds Try.pinned (OpenSpec.upto modelMergesSpec)

/-- 'dioramalaw03.ModelTracks', WHERE WHAT IT READS IS OF BULK AT MOST 1048576: true; the input reads as it did. -/
def modelTracksUptoRow : OpenClaim := { program := "ytknklchmpohjfaa", sum := "1ce5fc637726c513195dd973a5d613247c5a785ec9aa670a38327aba5105a198", func := "diorama/dioramalaw03.ModelTracks", spec := "modelTracks", unfollowed := true, recurses := true, plainKeys := false, apart := false, narrowed := true }
def ModelTracksUptoSaid : Prop := modelTracksUptoRow.holds Try.pinned (OpenSpec.upto modelTracksSpec)

end Rows
end Go.Proofs.Ytknklchmpohjfaa

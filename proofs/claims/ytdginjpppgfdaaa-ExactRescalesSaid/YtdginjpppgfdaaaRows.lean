/-
  No cell of these rows narrows 'for every input' (looked for: loops, veiled, ifaces, maps, wideKeys, modest, calm, conditions, laid).
  DERIVED. THE GIVEN ROWS OF THIS SEAT. 14 by the template 'for every input the law returns true; each argument reads behind the call as it read before'; 0 by the template 'total and deterministic' (their statements: YtdginjpppgfdaaaTotals.lean).
  GIVEN WITH THE SEED: the statements are not yours to turn. If you find one false, say at which input.
  Laid BY PROGRAM, IN A SANDBOX (cutbox-rows.mjs): the forced cells as the released guide's own fill.sh prints them over the translation 7b54fe889ff9326e… (all of the seat's roots in one cut). By AI agents, Wed Nov 11 2026. No macro, syntax, notation, axiom, sorry.
-/
import Derived.Test.YtdginjpppgfdaaaChecked
import GoSem.Claim
import GoSem.ClaimJoined
import GoSem.ClaimMapViews
import Derived.JoinedTies
import Derived.KernelRfl
namespace Go.Proofs.Ytdginjpppgfdaaa
/- THE CELL 'sum', in the pinned program and in every row, IS THE sha256 OF THE DUMP (.gsa) THAT YtdginjpppgfdaaaProg.lean LOADS. Nothing in Lean hashes anything: it is a label: what it is worth is what the hold of that sum in a sandbox is worth. -/
noncomputable def Try.pinned : Pinned := { name := "ytdginjpppgfdaaa", sum := "7b54fe889ff9326e7200c67758476c1a0a42daa00a64dac98327e9098e04c3e8", checked := Try.checked }
namespace Rows
def none {H : Type} : Left H := { results := [], args := [] }

/-- 'dioramalaw02.ExactRescales': WHATEVER THE INPUT: true; the input reads as it did. -/
def exactRescalesSpec : ChangeSpec := { name := "exactRescales", fn := fun _ => fun
  | [d] => { results := [.lit (.bool true)], args := [d] }
  | _ => none }
def exactRescalesRow : OpenClaim := { program := "ytdginjpppgfdaaa", sum := "7b54fe889ff9326e7200c67758476c1a0a42daa00a64dac98327e9098e04c3e8", func := "diorama/dioramalaw02.ExactRescales", spec := "exactRescales", unfollowed := true, recurses := true, apart := false }
def ExactRescalesSaid : Prop := exactRescalesRow.holds Try.pinned (OpenSpec.ofChange exactRescalesSpec)

/-- ITS FALSE NEIGHBOUR: 'it returns false'. Refute it at one input. -/
def exactRescalesWrong : ChangeSpec := { name := "exactRescales", fn := fun _ => fun
  | [d] => { results := [.lit (.bool false)], args := [d] }
  | _ => none }
def ExactRescalesWrongFalsely : Prop := exactRescalesRow.holds Try.pinned (OpenSpec.ofChange exactRescalesWrong)

/-- 'dioramalaw02.ExactScales': WHATEVER THE INPUT: true; the input reads as it did. -/
def exactScalesSpec : ChangeSpec := { name := "exactScales", fn := fun _ => fun
  | [d] => { results := [.lit (.bool true)], args := [d] }
  | _ => none }
def exactScalesRow : OpenClaim := { program := "ytdginjpppgfdaaa", sum := "7b54fe889ff9326e7200c67758476c1a0a42daa00a64dac98327e9098e04c3e8", func := "diorama/dioramalaw02.ExactScales", spec := "exactScales", unfollowed := true, recurses := true, apart := false }
def ExactScalesSaid : Prop := exactScalesRow.holds Try.pinned (OpenSpec.ofChange exactScalesSpec)

/-- ITS FALSE NEIGHBOUR: 'it returns false'. Refute it at one input. -/
def exactScalesWrong : ChangeSpec := { name := "exactScales", fn := fun _ => fun
  | [d] => { results := [.lit (.bool false)], args := [d] }
  | _ => none }
def ExactScalesWrongFalsely : Prop := exactScalesRow.holds Try.pinned (OpenSpec.ofChange exactScalesWrong)

/-- 'dioramalaw02.ExactLowest': WHATEVER THE INPUT: true; the input reads as it did. -/
def exactLowestSpec : ChangeSpec := { name := "exactLowest", fn := fun _ => fun
  | [d] => { results := [.lit (.bool true)], args := [d] }
  | _ => none }
def exactLowestRow : OpenClaim := { program := "ytdginjpppgfdaaa", sum := "7b54fe889ff9326e7200c67758476c1a0a42daa00a64dac98327e9098e04c3e8", func := "diorama/dioramalaw02.ExactLowest", spec := "exactLowest", unfollowed := true, recurses := true, apart := false }
def ExactLowestSaid : Prop := exactLowestRow.holds Try.pinned (OpenSpec.ofChange exactLowestSpec)

/-- ITS FALSE NEIGHBOUR: 'it returns false'. Refute it at one input. -/
def exactLowestWrong : ChangeSpec := { name := "exactLowest", fn := fun _ => fun
  | [d] => { results := [.lit (.bool false)], args := [d] }
  | _ => none }
def ExactLowestWrongFalsely : Prop := exactLowestRow.holds Try.pinned (OpenSpec.ofChange exactLowestWrong)

/-- 'dioramalaw02.ExactAdds': WHATEVER THE INPUT: true; the input reads as it did. -/
def exactAddsSpec : ChangeSpec := { name := "exactAdds", fn := fun _ => fun
  | [d1, d2] => { results := [.lit (.bool true)], args := [d1, d2] }
  | _ => none }
def exactAddsRow : OpenClaim := { program := "ytdginjpppgfdaaa", sum := "7b54fe889ff9326e7200c67758476c1a0a42daa00a64dac98327e9098e04c3e8", func := "diorama/dioramalaw02.ExactAdds", spec := "exactAdds", unfollowed := true, recurses := true, apart := false }
def ExactAddsSaid : Prop := exactAddsRow.holds Try.pinned (OpenSpec.ofChange exactAddsSpec)

/-- ITS FALSE NEIGHBOUR: 'it returns false'. Refute it at one input. -/
def exactAddsWrong : ChangeSpec := { name := "exactAdds", fn := fun _ => fun
  | [d1, d2] => { results := [.lit (.bool false)], args := [d1, d2] }
  | _ => none }
def ExactAddsWrongFalsely : Prop := exactAddsRow.holds Try.pinned (OpenSpec.ofChange exactAddsWrong)

/-- 'dioramalaw02.ExactField': WHATEVER THE INPUT: true; the input reads as it did. -/
def exactFieldSpec : ChangeSpec := { name := "exactField", fn := fun _ => fun
  | [d1, d2, d3] => { results := [.lit (.bool true)], args := [d1, d2, d3] }
  | _ => none }
def exactFieldRow : OpenClaim := { program := "ytdginjpppgfdaaa", sum := "7b54fe889ff9326e7200c67758476c1a0a42daa00a64dac98327e9098e04c3e8", func := "diorama/dioramalaw02.ExactField", spec := "exactField", unfollowed := true, recurses := true, apart := false }
def ExactFieldSaid : Prop := exactFieldRow.holds Try.pinned (OpenSpec.ofChange exactFieldSpec)

/-- ITS FALSE NEIGHBOUR: 'it returns false'. Refute it at one input. -/
def exactFieldWrong : ChangeSpec := { name := "exactField", fn := fun _ => fun
  | [d1, d2, d3] => { results := [.lit (.bool false)], args := [d1, d2, d3] }
  | _ => none }
def ExactFieldWrongFalsely : Prop := exactFieldRow.holds Try.pinned (OpenSpec.ofChange exactFieldWrong)

/-- 'dioramalaw02.ExactBase': WHATEVER THE INPUT: true; the input reads as it did. -/
def exactBaseSpec : ChangeSpec := { name := "exactBase", fn := fun _ => fun
  | [d] => { results := [.lit (.bool true)], args := [d] }
  | _ => none }
def exactBaseRow : OpenClaim := { program := "ytdginjpppgfdaaa", sum := "7b54fe889ff9326e7200c67758476c1a0a42daa00a64dac98327e9098e04c3e8", func := "diorama/dioramalaw02.ExactBase", spec := "exactBase", unfollowed := true, recurses := true, apart := false }
def ExactBaseSaid : Prop := exactBaseRow.holds Try.pinned (OpenSpec.ofChange exactBaseSpec)

/-- ITS FALSE NEIGHBOUR: 'it returns false'. Refute it at one input. -/
def exactBaseWrong : ChangeSpec := { name := "exactBase", fn := fun _ => fun
  | [d] => { results := [.lit (.bool false)], args := [d] }
  | _ => none }
def ExactBaseWrongFalsely : Prop := exactBaseRow.holds Try.pinned (OpenSpec.ofChange exactBaseWrong)

/-- 'dioramalaw02.ExactMultiplies': WHATEVER THE INPUT: true; the input reads as it did. -/
def exactMultipliesSpec : ChangeSpec := { name := "exactMultiplies", fn := fun _ => fun
  | [d1, d2] => { results := [.lit (.bool true)], args := [d1, d2] }
  | _ => none }
def exactMultipliesRow : OpenClaim := { program := "ytdginjpppgfdaaa", sum := "7b54fe889ff9326e7200c67758476c1a0a42daa00a64dac98327e9098e04c3e8", func := "diorama/dioramalaw02.ExactMultiplies", spec := "exactMultiplies", unfollowed := true, recurses := true, apart := false }
def ExactMultipliesSaid : Prop := exactMultipliesRow.holds Try.pinned (OpenSpec.ofChange exactMultipliesSpec)

/-- ITS FALSE NEIGHBOUR: 'it returns false'. Refute it at one input. -/
def exactMultipliesWrong : ChangeSpec := { name := "exactMultiplies", fn := fun _ => fun
  | [d1, d2] => { results := [.lit (.bool false)], args := [d1, d2] }
  | _ => none }
def ExactMultipliesWrongFalsely : Prop := exactMultipliesRow.holds Try.pinned (OpenSpec.ofChange exactMultipliesWrong)

/-- 'dioramalaw02.ExactCompares': WHATEVER THE INPUT: true; the input reads as it did. -/
def exactComparesSpec : ChangeSpec := { name := "exactCompares", fn := fun _ => fun
  | [d1, d2] => { results := [.lit (.bool true)], args := [d1, d2] }
  | _ => none }
def exactComparesRow : OpenClaim := { program := "ytdginjpppgfdaaa", sum := "7b54fe889ff9326e7200c67758476c1a0a42daa00a64dac98327e9098e04c3e8", func := "diorama/dioramalaw02.ExactCompares", spec := "exactCompares", unfollowed := true, recurses := true, apart := false }
def ExactComparesSaid : Prop := exactComparesRow.holds Try.pinned (OpenSpec.ofChange exactComparesSpec)

/-- ITS FALSE NEIGHBOUR: 'it returns false'. Refute it at one input. -/
def exactComparesWrong : ChangeSpec := { name := "exactCompares", fn := fun _ => fun
  | [d1, d2] => { results := [.lit (.bool false)], args := [d1, d2] }
  | _ => none }
def ExactComparesWrongFalsely : Prop := exactComparesRow.holds Try.pinned (OpenSpec.ofChange exactComparesWrong)

/-- 'dioramalaw02.ExactOrder': WHATEVER THE INPUT: true; the input reads as it did. -/
def exactOrderSpec : ChangeSpec := { name := "exactOrder", fn := fun _ => fun
  | [d1, d2, d3] => { results := [.lit (.bool true)], args := [d1, d2, d3] }
  | _ => none }
def exactOrderRow : OpenClaim := { program := "ytdginjpppgfdaaa", sum := "7b54fe889ff9326e7200c67758476c1a0a42daa00a64dac98327e9098e04c3e8", func := "diorama/dioramalaw02.ExactOrder", spec := "exactOrder", unfollowed := true, recurses := true, apart := false }
def ExactOrderSaid : Prop := exactOrderRow.holds Try.pinned (OpenSpec.ofChange exactOrderSpec)

/-- ITS FALSE NEIGHBOUR: 'it returns false'. Refute it at one input. -/
def exactOrderWrong : ChangeSpec := { name := "exactOrder", fn := fun _ => fun
  | [d1, d2, d3] => { results := [.lit (.bool false)], args := [d1, d2, d3] }
  | _ => none }
def ExactOrderWrongFalsely : Prop := exactOrderRow.holds Try.pinned (OpenSpec.ofChange exactOrderWrong)

/-- 'dioramalaw02.ExactRounds': WHATEVER THE INPUT: true; the input reads as it did. -/
def exactRoundsSpec : ChangeSpec := { name := "exactRounds", fn := fun _ => fun
  | [d1, d2] => { results := [.lit (.bool true)], args := [d1, d2] }
  | _ => none }
def exactRoundsRow : OpenClaim := { program := "ytdginjpppgfdaaa", sum := "7b54fe889ff9326e7200c67758476c1a0a42daa00a64dac98327e9098e04c3e8", func := "diorama/dioramalaw02.ExactRounds", spec := "exactRounds", unfollowed := true, recurses := true, apart := false }
def ExactRoundsSaid : Prop := exactRoundsRow.holds Try.pinned (OpenSpec.ofChange exactRoundsSpec)

/-- ITS FALSE NEIGHBOUR: 'it returns false'. Refute it at one input. -/
def exactRoundsWrong : ChangeSpec := { name := "exactRounds", fn := fun _ => fun
  | [d1, d2] => { results := [.lit (.bool false)], args := [d1, d2] }
  | _ => none }
def ExactRoundsWrongFalsely : Prop := exactRoundsRow.holds Try.pinned (OpenSpec.ofChange exactRoundsWrong)

/-- 'dioramalaw02.ExactTicks': WHATEVER THE INPUT: true; the input reads as it did. -/
def exactTicksSpec : ChangeSpec := { name := "exactTicks", fn := fun _ => fun
  | [d1, d2, d3] => { results := [.lit (.bool true)], args := [d1, d2, d3] }
  | _ => none }
def exactTicksRow : OpenClaim := { program := "ytdginjpppgfdaaa", sum := "7b54fe889ff9326e7200c67758476c1a0a42daa00a64dac98327e9098e04c3e8", func := "diorama/dioramalaw02.ExactTicks", spec := "exactTicks", unfollowed := true, recurses := true, apart := false }
def ExactTicksSaid : Prop := exactTicksRow.holds Try.pinned (OpenSpec.ofChange exactTicksSpec)

/-- ITS FALSE NEIGHBOUR: 'it returns false'. Refute it at one input. -/
def exactTicksWrong : ChangeSpec := { name := "exactTicks", fn := fun _ => fun
  | [d1, d2, d3] => { results := [.lit (.bool false)], args := [d1, d2, d3] }
  | _ => none }
def ExactTicksWrongFalsely : Prop := exactTicksRow.holds Try.pinned (OpenSpec.ofChange exactTicksWrong)

/-- 'dioramalaw02.ExactWhole': WHATEVER THE INPUT: true; the input reads as it did. -/
def exactWholeSpec : ChangeSpec := { name := "exactWhole", fn := fun _ => fun
  | [d1, d2] => { results := [.lit (.bool true)], args := [d1, d2] }
  | _ => none }
def exactWholeRow : OpenClaim := { program := "ytdginjpppgfdaaa", sum := "7b54fe889ff9326e7200c67758476c1a0a42daa00a64dac98327e9098e04c3e8", func := "diorama/dioramalaw02.ExactWhole", spec := "exactWhole", unfollowed := true, recurses := true, apart := false }
def ExactWholeSaid : Prop := exactWholeRow.holds Try.pinned (OpenSpec.ofChange exactWholeSpec)

/-- ITS FALSE NEIGHBOUR: 'it returns false'. Refute it at one input. -/
def exactWholeWrong : ChangeSpec := { name := "exactWhole", fn := fun _ => fun
  | [d1, d2] => { results := [.lit (.bool false)], args := [d1, d2] }
  | _ => none }
def ExactWholeWrongFalsely : Prop := exactWholeRow.holds Try.pinned (OpenSpec.ofChange exactWholeWrong)

/-- 'dioramalaw02.ExactBack': WHATEVER THE INPUT: true; the input reads as it did. -/
def exactBackSpec : ChangeSpec := { name := "exactBack", fn := fun _ => fun
  | [d1, d2] => { results := [.lit (.bool true)], args := [d1, d2] }
  | _ => none }
def exactBackRow : OpenClaim := { program := "ytdginjpppgfdaaa", sum := "7b54fe889ff9326e7200c67758476c1a0a42daa00a64dac98327e9098e04c3e8", func := "diorama/dioramalaw02.ExactBack", spec := "exactBack", unfollowed := true, recurses := true, apart := false }
def ExactBackSaid : Prop := exactBackRow.holds Try.pinned (OpenSpec.ofChange exactBackSpec)

/-- ITS FALSE NEIGHBOUR: 'it returns false'. Refute it at one input. -/
def exactBackWrong : ChangeSpec := { name := "exactBack", fn := fun _ => fun
  | [d1, d2] => { results := [.lit (.bool false)], args := [d1, d2] }
  | _ => none }
def ExactBackWrongFalsely : Prop := exactBackRow.holds Try.pinned (OpenSpec.ofChange exactBackWrong)

/-- 'dioramalaw02.ExactMoves': WHATEVER THE INPUT: true; the input reads as it did. -/
def exactMovesSpec : ChangeSpec := { name := "exactMoves", fn := fun _ => fun
  | [d1, d2, d3] => { results := [.lit (.bool true)], args := [d1, d2, d3] }
  | _ => none }
def exactMovesRow : OpenClaim := { program := "ytdginjpppgfdaaa", sum := "7b54fe889ff9326e7200c67758476c1a0a42daa00a64dac98327e9098e04c3e8", func := "diorama/dioramalaw02.ExactMoves", spec := "exactMoves", unfollowed := true, recurses := true, apart := false }
def ExactMovesSaid : Prop := exactMovesRow.holds Try.pinned (OpenSpec.ofChange exactMovesSpec)

/-- ITS FALSE NEIGHBOUR: 'it returns false'. Refute it at one input. -/
def exactMovesWrong : ChangeSpec := { name := "exactMoves", fn := fun _ => fun
  | [d1, d2, d3] => { results := [.lit (.bool false)], args := [d1, d2, d3] }
  | _ => none }
def ExactMovesWrongFalsely : Prop := exactMovesRow.holds Try.pinned (OpenSpec.ofChange exactMovesWrong)

/- THE SECOND FORM. 'bulk': how many values and letters a reading holds, each counted each time it is reached (what is shared counts as often as it is met; a slice's spare places count too). A statement '..UptoSaid' is the law's where the arguments, and the package variables that the reading takes, are together of bulk at most 1048576: NARROWER than '..Said'. Prove '..Said' where nothing that the law and all that it calls make is longer than what came in: it says more and counts as full. Else prove '..UptoSaid'. A law counts once. -/
mutual
def uptoBulk {H : Type} : DataW H → Nat
  | .lit (.string bytes) => bytes.length + 1
  | .lit _ => 1
  | .nil => 1
  | .ptr d => uptoBulk d + 1
  | .slice elems spare => uptoBulkAll elems + uptoBulkAll spare + 1
  | .agg parts => uptoBulkAll parts + 1
  | .iface _ d => uptoBulk d + 1
  | .map entries => uptoBulkEntries entries + 1
  | .held _ => 1
def uptoBulkAll {H : Type} : List (DataW H) → Nat
  | [] => 0
  | d :: r => uptoBulk d + uptoBulkAll r
def uptoBulkEntries {H : Type} : List (Lit × DataW H) → Nat
  | [] => 0
  | x :: r => uptoBulkEntry x + uptoBulkEntries r
def uptoBulkEntry {H : Type} : Lit × DataW H → Nat
  | (.string bytes, d) => bytes.length + uptoBulk d + 1
  | (_, d) => uptoBulk d + 1
 end
def uptoSmall : (H : Type) → List (DataW H) → Bool := fun _ ds => decide (uptoBulkAll ds ≤ 1048576)
def OpenSpec.upto (s : _root_.Go.ChangeSpec) : _root_.Go.OpenSpec := { _root_.Go.OpenSpec.ofChange s with cond := some uptoSmall }

/-- 'dioramalaw02.ExactRescales', WHERE WHAT IT READS IS OF BULK AT MOST 1048576: true; the input reads as it did. -/
def exactRescalesUptoRow : OpenClaim := { program := "ytdginjpppgfdaaa", sum := "7b54fe889ff9326e7200c67758476c1a0a42daa00a64dac98327e9098e04c3e8", func := "diorama/dioramalaw02.ExactRescales", spec := "exactRescales", unfollowed := true, recurses := true, apart := false, narrowed := true }
def ExactRescalesUptoSaid : Prop := exactRescalesUptoRow.holds Try.pinned (OpenSpec.upto exactRescalesSpec)

/-- 'dioramalaw02.ExactScales', WHERE WHAT IT READS IS OF BULK AT MOST 1048576: true; the input reads as it did. -/
def exactScalesUptoRow : OpenClaim := { program := "ytdginjpppgfdaaa", sum := "7b54fe889ff9326e7200c67758476c1a0a42daa00a64dac98327e9098e04c3e8", func := "diorama/dioramalaw02.ExactScales", spec := "exactScales", unfollowed := true, recurses := true, apart := false, narrowed := true }
def ExactScalesUptoSaid : Prop := exactScalesUptoRow.holds Try.pinned (OpenSpec.upto exactScalesSpec)

/-- 'dioramalaw02.ExactLowest', WHERE WHAT IT READS IS OF BULK AT MOST 1048576: true; the input reads as it did. -/
def exactLowestUptoRow : OpenClaim := { program := "ytdginjpppgfdaaa", sum := "7b54fe889ff9326e7200c67758476c1a0a42daa00a64dac98327e9098e04c3e8", func := "diorama/dioramalaw02.ExactLowest", spec := "exactLowest", unfollowed := true, recurses := true, apart := false, narrowed := true }
def ExactLowestUptoSaid : Prop := exactLowestUptoRow.holds Try.pinned (OpenSpec.upto exactLowestSpec)

/-- 'dioramalaw02.ExactAdds', WHERE WHAT IT READS IS OF BULK AT MOST 1048576: true; the input reads as it did. -/
def exactAddsUptoRow : OpenClaim := { program := "ytdginjpppgfdaaa", sum := "7b54fe889ff9326e7200c67758476c1a0a42daa00a64dac98327e9098e04c3e8", func := "diorama/dioramalaw02.ExactAdds", spec := "exactAdds", unfollowed := true, recurses := true, apart := false, narrowed := true }
def ExactAddsUptoSaid : Prop := exactAddsUptoRow.holds Try.pinned (OpenSpec.upto exactAddsSpec)

/-- 'dioramalaw02.ExactField', WHERE WHAT IT READS IS OF BULK AT MOST 1048576: true; the input reads as it did. -/
def exactFieldUptoRow : OpenClaim := { program := "ytdginjpppgfdaaa", sum := "7b54fe889ff9326e7200c67758476c1a0a42daa00a64dac98327e9098e04c3e8", func := "diorama/dioramalaw02.ExactField", spec := "exactField", unfollowed := true, recurses := true, apart := false, narrowed := true }
def ExactFieldUptoSaid : Prop := exactFieldUptoRow.holds Try.pinned (OpenSpec.upto exactFieldSpec)

/-- 'dioramalaw02.ExactBase', WHERE WHAT IT READS IS OF BULK AT MOST 1048576: true; the input reads as it did. -/
def exactBaseUptoRow : OpenClaim := { program := "ytdginjpppgfdaaa", sum := "7b54fe889ff9326e7200c67758476c1a0a42daa00a64dac98327e9098e04c3e8", func := "diorama/dioramalaw02.ExactBase", spec := "exactBase", unfollowed := true, recurses := true, apart := false, narrowed := true }
def ExactBaseUptoSaid : Prop := exactBaseUptoRow.holds Try.pinned (OpenSpec.upto exactBaseSpec)

/-- 'dioramalaw02.ExactMultiplies', WHERE WHAT IT READS IS OF BULK AT MOST 1048576: true; the input reads as it did. -/
def exactMultipliesUptoRow : OpenClaim := { program := "ytdginjpppgfdaaa", sum := "7b54fe889ff9326e7200c67758476c1a0a42daa00a64dac98327e9098e04c3e8", func := "diorama/dioramalaw02.ExactMultiplies", spec := "exactMultiplies", unfollowed := true, recurses := true, apart := false, narrowed := true }
def ExactMultipliesUptoSaid : Prop := exactMultipliesUptoRow.holds Try.pinned (OpenSpec.upto exactMultipliesSpec)

/-- 'dioramalaw02.ExactCompares', WHERE WHAT IT READS IS OF BULK AT MOST 1048576: true; the input reads as it did. -/
def exactComparesUptoRow : OpenClaim := { program := "ytdginjpppgfdaaa", sum := "7b54fe889ff9326e7200c67758476c1a0a42daa00a64dac98327e9098e04c3e8", func := "diorama/dioramalaw02.ExactCompares", spec := "exactCompares", unfollowed := true, recurses := true, apart := false, narrowed := true }
def ExactComparesUptoSaid : Prop := exactComparesUptoRow.holds Try.pinned (OpenSpec.upto exactComparesSpec)

/-- 'dioramalaw02.ExactOrder', WHERE WHAT IT READS IS OF BULK AT MOST 1048576: true; the input reads as it did. -/
def exactOrderUptoRow : OpenClaim := { program := "ytdginjpppgfdaaa", sum := "7b54fe889ff9326e7200c67758476c1a0a42daa00a64dac98327e9098e04c3e8", func := "diorama/dioramalaw02.ExactOrder", spec := "exactOrder", unfollowed := true, recurses := true, apart := false, narrowed := true }
def ExactOrderUptoSaid : Prop := exactOrderUptoRow.holds Try.pinned (OpenSpec.upto exactOrderSpec)

/-- 'dioramalaw02.ExactRounds', WHERE WHAT IT READS IS OF BULK AT MOST 1048576: true; the input reads as it did. -/
def exactRoundsUptoRow : OpenClaim := { program := "ytdginjpppgfdaaa", sum := "7b54fe889ff9326e7200c67758476c1a0a42daa00a64dac98327e9098e04c3e8", func := "diorama/dioramalaw02.ExactRounds", spec := "exactRounds", unfollowed := true, recurses := true, apart := false, narrowed := true }
def ExactRoundsUptoSaid : Prop := exactRoundsUptoRow.holds Try.pinned (OpenSpec.upto exactRoundsSpec)

/-- 'dioramalaw02.ExactTicks', WHERE WHAT IT READS IS OF BULK AT MOST 1048576: true; the input reads as it did. -/
def exactTicksUptoRow : OpenClaim := { program := "ytdginjpppgfdaaa", sum := "7b54fe889ff9326e7200c67758476c1a0a42daa00a64dac98327e9098e04c3e8", func := "diorama/dioramalaw02.ExactTicks", spec := "exactTicks", unfollowed := true, recurses := true, apart := false, narrowed := true }
def ExactTicksUptoSaid : Prop := exactTicksUptoRow.holds Try.pinned (OpenSpec.upto exactTicksSpec)

/-- 'dioramalaw02.ExactWhole', WHERE WHAT IT READS IS OF BULK AT MOST 1048576: true; the input reads as it did. -/
def exactWholeUptoRow : OpenClaim := { program := "ytdginjpppgfdaaa", sum := "7b54fe889ff9326e7200c67758476c1a0a42daa00a64dac98327e9098e04c3e8", func := "diorama/dioramalaw02.ExactWhole", spec := "exactWhole", unfollowed := true, recurses := true, apart := false, narrowed := true }
def ExactWholeUptoSaid : Prop := exactWholeUptoRow.holds Try.pinned (OpenSpec.upto exactWholeSpec)

/-- 'dioramalaw02.ExactBack', WHERE WHAT IT READS IS OF BULK AT MOST 1048576: true; the input reads as it did. -/
def exactBackUptoRow : OpenClaim := { program := "ytdginjpppgfdaaa", sum := "7b54fe889ff9326e7200c67758476c1a0a42daa00a64dac98327e9098e04c3e8", func := "diorama/dioramalaw02.ExactBack", spec := "exactBack", unfollowed := true, recurses := true, apart := false, narrowed := true }
def ExactBackUptoSaid : Prop := exactBackUptoRow.holds Try.pinned (OpenSpec.upto exactBackSpec)

/-- 'dioramalaw02.ExactMoves', WHERE WHAT IT READS IS OF BULK AT MOST 1048576: true; the input reads as it did. -/
def exactMovesUptoRow : OpenClaim := { program := "ytdginjpppgfdaaa", sum := "7b54fe889ff9326e7200c67758476c1a0a42daa00a64dac98327e9098e04c3e8", func := "diorama/dioramalaw02.ExactMoves", spec := "exactMoves", unfollowed := true, recurses := true, apart := false, narrowed := true }
def ExactMovesUptoSaid : Prop := exactMovesUptoRow.holds Try.pinned (OpenSpec.upto exactMovesSpec)

end Rows
end Go.Proofs.Ytdginjpppgfdaaa

-- PRINTED by print.py (a twelfth state) out of the translation. Not trusted: Lean checks it.
import Derived.Test.YtdginjpppgfdaaaProg
import Derived.Below
import Derived.Deep.Draws
import Derived.Deep.AppendLies
import Derived.Maps.AppendAt
import Derived.OwnWalk
import Derived.Laws.BytesArg
import Derived.Laws.MakeOwn
import Derived.Laws.OwnMore
import Derived.Deep.OwnRows
import Derived.Tactics
import Derived.Lib.ConvBytes
import Derived.Laws.Slices
import Derived.WalkKit
import Derived.KernelRfl
import Derived.RowKit3
import Derived.Deep.LoopGhost
import Derived.Deep.QuietTactic
import Derived.BigQuiet
import Derived.WideLaws
import Derived.Deep.DeepCutAuto
import Derived.Deep.CutBlock
import Derived.Deep.RegionHeld3
import Derived.Laws.Rows
import Derived.Lib.AppendStr
import Derived.ArgAppend
import Derived.Laws.IdiomCopy
import Derived.OrdersHeld
import Derived.Laws.BitsLemmas
import Derived.RowKit
import Derived.Test.YtdginjpppgfdaaaWWords
import Derived.Test.YtdginjpppgfdaaaWLast
import Derived.Test.YtdginjpppgfdaaaWTab
import Derived.Test.YtdginjpppgfdaaaWFour
import Derived.Test.YtdginjpppgfdaaaWQPut
import Derived.Test.YtdginjpppgfdaaaWApart
import Derived.Test.YtdginjpppgfdaaaWArr
import Derived.Test.YtdginjpppgfdaaaWZeros
import Derived.Test.YtdginjpppgfdaaaWFoot
import Derived.Test.YtdginjpppgfdaaaWKept
import Derived.Test.YtdginjpppgfdaaaWShare
import Derived.Test.YtdginjpppgfdaaaWN
import Derived.Test.YtdginjpppgfdaaaWFootNe
import Derived.Test.YtdginjpppgfdaaaWAt
import Derived.Test.YtdginjpppgfdaaaWEqStruct
import Derived.Test.YtdginjpppgfdaaaWRepsOne
import Derived.Test.YtdginjpppgfdaaaWInv
import Derived.Test.YtdginjpppgfdaaaWInvWords
import Derived.Test.YtdginjpppgfdaaaWGuard
import Derived.Test.YtdginjpppgfdaaaWNEv
import Derived.Test.YtdginjpppgfdaaaWMore
namespace Go.Proofs.Ytdginjpppgfdaaa.P
open Go.RowKit Go.Proofs.YtdginjpppgfdaaaW.PrintWords Go.Proofs.YtdginjpppgfdaaaW.PrintLast Go.Proofs.YtdginjpppgfdaaaW.PrintMore
attribute [local go_sem] max2_int min2_int max_two min_two max_three min_three max_four min_four   -- for this text's walks alone
set_option linter.unusedVariables false
set_option linter.unusedSimpArgs false



def errW : Option Int → Value
  | none => .nilIface
  | some c => .iface 0 (.int .i64 c)
theorem errW_none : errW none = .nilIface := rfl
theorem errW_some (c : Int) : errW (some c) = .iface 0 (.int .i64 c) := rfl

theorem info3 : (Try.prog.info? 3).map (fun i => (i.zero, i.size, i.bytes)) = some (some (.int .i64 0), 1, 8) := by kernel_rfl
theorem info122 : (Try.prog.info? 122).map (fun i => (i.zero, i.size, i.bytes)) = some (some (.int .u32 0), 1, 4) := by kernel_rfl
-- the values' own types

end Go.Proofs.Ytdginjpppgfdaaa.P

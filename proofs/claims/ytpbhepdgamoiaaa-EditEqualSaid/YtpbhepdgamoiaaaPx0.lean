-- PRINTED by print.py (a twelfth state) out of the translation. Not trusted: Lean checks it.
import Derived.Test.YtpbhepdgamoiaaaProg
import Derived.Below
import Derived.Deep.Draws
import Derived.Deep.AppendLies
import Derived.Maps.AppendAt
import Derived.OwnWalk
import Derived.Laws.BytesArg
import Derived.Laws.MakeOwn
import Derived.Laws.OwnMore
import Derived.Deep.OwnRows
import Derived.Tactics
import Derived.Lib.ConvBytes
import Derived.Laws.Slices
import Derived.WalkKit
import Derived.KernelRfl
import Derived.RowKit3
import Derived.Deep.LoopGhost
import Derived.Deep.QuietTactic
import Derived.BigQuiet
import Derived.WideLaws
import Derived.Deep.DeepCutAuto
import Derived.Deep.CutBlock
import Derived.Deep.RegionHeld3
import Derived.Laws.Rows
import Derived.Lib.AppendStr
import Derived.ArgAppend
import Derived.Laws.IdiomCopy
import Derived.OrdersHeld
import Derived.Laws.BitsLemmas
import Derived.RowKit
import Derived.Test.YtpbhepdgamoiaaaWWords
import Derived.Test.YtpbhepdgamoiaaaWLast
import Derived.Test.YtpbhepdgamoiaaaWTab
import Derived.Test.YtpbhepdgamoiaaaWQPut
import Derived.Test.YtpbhepdgamoiaaaWApart
import Derived.Test.YtpbhepdgamoiaaaWArr
import Derived.Test.YtpbhepdgamoiaaaWZeros
import Derived.Test.YtpbhepdgamoiaaaWFoot
import Derived.Test.YtpbhepdgamoiaaaWKept
import Derived.Test.YtpbhepdgamoiaaaWShare
import Derived.Test.YtpbhepdgamoiaaaWN
import Derived.Test.YtpbhepdgamoiaaaWRepsOne
import Derived.Test.YtpbhepdgamoiaaaWNEv
import Derived.Test.YtpbhepdgamoiaaaWMore
namespace Go.Proofs.Ytpbhepdgamoiaaa.P
open Go.RowKit Go.Proofs.YtpbhepdgamoiaaaW.PrintWords Go.Proofs.YtpbhepdgamoiaaaW.PrintLast Go.Proofs.YtpbhepdgamoiaaaW.PrintMore
attribute [local go_sem] max2_int min2_int max_two min_two max_three min_three max_four min_four   -- for this text's walks alone
set_option linter.unusedVariables false
set_option linter.unusedSimpArgs false



def errW : Option Int → Value
  | none => .nilIface
  | some c => .iface 0 (.int .i64 c)
theorem errW_none : errW none = .nilIface := rfl
theorem errW_some (c : Int) : errW (some c) = .iface 0 (.int .i64 c) := rfl

theorem info157 : (Try.prog.info? 157).map (fun i => (i.zero, i.size, i.bytes)) = some (some (.int .u32 0), 1, 4) := by kernel_rfl
-- the values' own types

end Go.Proofs.Ytpbhepdgamoiaaa.P

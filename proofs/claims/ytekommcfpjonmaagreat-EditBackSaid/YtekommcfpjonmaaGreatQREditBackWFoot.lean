/-
  Printed walks.
-/
import Derived.Test.YtekommcfpjonmaaGreatQREditBackWApart
import Derived.Test.YtekommcfpjonmaaGreatQREditBackWArr
set_option linter.unusedVariables false
set_option linter.unusedSimpArgs false
namespace Go.Proofs.YtekommcfpjonmaaGreatW.PrintWords
open Go.RowKit
namespace Kd
section
variable {α : Type} {d : Kd α} {e base g n c : Nat} {ok : Nat → Prop} {w w0 W : World} {A : Option Addr} {xs : List α}
end
end Kd
end Go.Proofs.YtekommcfpjonmaaGreatW.PrintWords

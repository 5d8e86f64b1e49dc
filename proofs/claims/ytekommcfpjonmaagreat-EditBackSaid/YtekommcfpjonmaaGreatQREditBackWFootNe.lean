/-
  Printed walks.
-/
import Derived.Test.YtekommcfpjonmaaGreatQREditBackWN
set_option linter.unusedVariables false
set_option linter.unusedSimpArgs false
namespace Go.Proofs.YtekommcfpjonmaaGreatW.PrintWords
open Go.RowKit
namespace Kd
section
variable {α : Type} {d : Kd α} {W : World} {g n : Nat} {S ok : Nat → Prop} {A : Option Addr} {ad : Addr} {xs : List α}
end
end Kd
end Go.Proofs.YtekommcfpjonmaaGreatW.PrintWords

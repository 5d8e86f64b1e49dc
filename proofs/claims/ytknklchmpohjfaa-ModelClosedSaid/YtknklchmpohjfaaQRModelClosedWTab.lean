/-
  Printed walks.
-/
import Derived.Test.YtknklchmpohjfaaQRModelClosedWLast
import Derived.Test.YtknklchmpohjfaaQRModelClosedWWords
namespace Go.Proofs.YtknklchmpohjfaaW.PrintLast
open Go.Proofs.YtknklchmpohjfaaW.PrintWords (Aside0)
section
variable {md : Region.Mode} {ops : Array Oper} {T : Bool × List (List Nat × List Nat)} {l l' li lj lk : Array Bool} {ds : List Nat} {i j k : Nat}
end
end Go.Proofs.YtknklchmpohjfaaW.PrintLast

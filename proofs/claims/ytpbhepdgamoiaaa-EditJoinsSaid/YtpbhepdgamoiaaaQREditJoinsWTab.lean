/-
  Printed walks.
-/
import Derived.Test.YtpbhepdgamoiaaaQREditJoinsWLast
import Derived.Test.YtpbhepdgamoiaaaQREditJoinsWWords
namespace Go.Proofs.YtpbhepdgamoiaaaW.PrintLast
open Go.Proofs.YtpbhepdgamoiaaaW.PrintWords (Aside0)
section
variable {md : Region.Mode} {ops : Array Oper} {T : Bool × List (List Nat × List Nat)} {l l' li lj lk : Array Bool} {ds : List Nat} {i j k : Nat}
end
end Go.Proofs.YtpbhepdgamoiaaaW.PrintLast

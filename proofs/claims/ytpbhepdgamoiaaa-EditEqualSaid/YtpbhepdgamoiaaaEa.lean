/-
  Fractions in lowest terms, as whole numbers.
-/
import Derived.Test.YtpbhepdgamoiaaaQa
namespace Go.Proofs.Ytpbhepdgamoiaaa.Ea
open Go.RowKit Go Go.Proofs.YtpbhepdgamoiaaaW.PrintWords Go.Proofs.YtpbhepdgamoiaaaW.PrintLast Go.Proofs.YtpbhepdgamoiaaaW.PrintMore Go.Proofs.Ytpbhepdgamoiaaa.Ml Go.Proofs.Ytpbhepdgamoiaaa.Mn Go.Proofs.Ytpbhepdgamoiaaa.Nd Go.Proofs.Ytpbhepdgamoiaaa.P Go.Proofs.Ytpbhepdgamoiaaa.Nc Go.Proofs.Ytpbhepdgamoiaaa.Nb Go.Proofs.Ytpbhepdgamoiaaa.Qa
set_option linter.unusedVariables false
set_option linter.unusedSimpArgs false

def lowN (n d : Int) : Int := n / (Int.gcd n d : Int)
def lowD (n d : Int) : Int := d / (Int.gcd n d : Int)
def valid (n d : Int) : Bool := decide (1 ≤ d) && decide (d ≤ 1152921504606846976) && decide (-1152921504606846976 ≤ n) && decide (n ≤ 1152921504606846976)
def tm (n d : Int) : Value := .agg #[.int .i64 n, .int .i64 d]
def er (e : Int) : Value := .int .i64 e
end Go.Proofs.Ytpbhepdgamoiaaa.Ea

-- PRINTED by print.py (a twelfth state) out of the translation. Not trusted: Lean checks it.
import Derived.Test.YtpbhepdgamoiaaaPx0
import Derived.Test.YtpbhepdgamoiaaaPx1
import Derived.Test.YtpbhepdgamoiaaaPx2
namespace Go.Proofs.Ytpbhepdgamoiaaa.P
open Go.RowKit Go.Proofs.YtpbhepdgamoiaaaW.PrintWords Go.Proofs.YtpbhepdgamoiaaaW.PrintLast Go.Proofs.YtpbhepdgamoiaaaW.PrintMore
attribute [local go_sem] max2_int min2_int max_two min_two max_three min_three max_four min_four   -- for this text's walks alone
set_option linter.unusedVariables false
set_option linter.unusedSimpArgs false

end Go.Proofs.Ytpbhepdgamoiaaa.P

-- PRINTED by print.py (a twelfth state) out of the translation. Not trusted: Lean checks it.
import Derived.Test.YtdginjpppgfdaaaPx0
import Derived.Test.YtdginjpppgfdaaaPx1
import Derived.Test.YtdginjpppgfdaaaPx2
import Derived.Test.YtdginjpppgfdaaaPx3
import Derived.Test.YtdginjpppgfdaaaPx4
namespace Go.Proofs.Ytdginjpppgfdaaa.P
open Go.RowKit Go.Proofs.YtdginjpppgfdaaaW.PrintWords Go.Proofs.YtdginjpppgfdaaaW.PrintLast Go.Proofs.YtdginjpppgfdaaaW.PrintMore
attribute [local go_sem] max2_int min2_int max_two min_two max_three min_three max_four min_four   -- for this text's walks alone
set_option linter.unusedVariables false
set_option linter.unusedSimpArgs false

end Go.Proofs.Ytdginjpppgfdaaa.P

/- The functions that the law comes to, as plain functions, and for each a proof that the Go code comes to just these answers. Written by a program of this claim. Conditions: each theorem bears its own. -/
import Derived.Test.YtlomknhkbhibfaaDoorESchedPlaysx0
import Derived.Test.YtlomknhkbhibfaaDoorESchedPlaysx1
import Derived.Test.YtlomknhkbhibfaaDoorESchedPlaysx2
import Derived.Test.YtlomknhkbhibfaaDoorESchedPlaysx3
import Derived.Test.YtlomknhkbhibfaaDoorESchedPlaysx4
import Derived.Test.YtlomknhkbhibfaaDoorESchedPlaysx5
namespace Go.Proofs.YtlomknhkbhibfaaDoor.ESchedPlays
open Go.RowKit Go.Proofs.YtlomknhkbhibfaaDoorW.PrintWords Go.Proofs.YtlomknhkbhibfaaDoorW.PrintLast Go.Proofs.YtlomknhkbhibfaaDoorW.PrintMore Go.Proofs.YtlomknhkbhibfaaDoorW.PrintOpen
attribute [local go_sem] max2_int min2_int max_two min_two max_three min_three max_four min_four   -- for this text's walks alone
set_option linter.unusedVariables false
set_option linter.unusedSimpArgs false

end Go.Proofs.YtlomknhkbhibfaaDoor.ESchedPlays

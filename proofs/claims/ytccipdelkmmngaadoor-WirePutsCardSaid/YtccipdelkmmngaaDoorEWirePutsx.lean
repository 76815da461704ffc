/- The functions that the law comes to, as plain functions, and for each a proof that the Go code comes to just these answers. Written by a program of this claim. Conditions: each theorem bears its own. -/
import Derived.Test.YtccipdelkmmngaaDoorEWirePutsx0
import Derived.Test.YtccipdelkmmngaaDoorEWirePutsx1
import Derived.Test.YtccipdelkmmngaaDoorEWirePutsx2
namespace Go.Proofs.YtccipdelkmmngaaDoor.EWirePuts
open Go.RowKit Go.Proofs.YtccipdelkmmngaaDoorW.PrintWords Go.Proofs.YtccipdelkmmngaaDoorW.PrintLast Go.Proofs.YtccipdelkmmngaaDoorW.PrintMore Go.Proofs.YtccipdelkmmngaaDoorW.PrintOpen
attribute [local go_sem] max2_int min2_int max_two min_two max_three min_three max_four min_four   -- for this text's walks alone
set_option linter.unusedVariables false
set_option linter.unusedSimpArgs false

end Go.Proofs.YtccipdelkmmngaaDoor.EWirePuts

/- The functions that the law comes to, as plain functions, and for each a proof that the Go code comes to just these answers. Written by a program of this claim. Conditions: each theorem bears its own. -/
import Derived.Test.YtmofdacfijobdaaDoorEValueFallsx0
import Derived.Test.YtmofdacfijobdaaDoorEValueFallsx1
import Derived.Test.YtmofdacfijobdaaDoorEValueFallsx2
import Derived.Test.YtmofdacfijobdaaDoorEValueFallsx3
import Derived.Test.YtmofdacfijobdaaDoorEValueFallsx4
import Derived.Test.YtmofdacfijobdaaDoorEValueFallsx5
namespace Go.Proofs.YtmofdacfijobdaaDoor.EValueFalls
open Go.RowKit Go.Proofs.YtmofdacfijobdaaDoorW.PrintWords Go.Proofs.YtmofdacfijobdaaDoorW.PrintLast Go.Proofs.YtmofdacfijobdaaDoorW.PrintMore Go.Proofs.YtmofdacfijobdaaDoorW.PrintOpen
attribute [local go_sem] max2_int min2_int max_two min_two max_three min_three max_four min_four   -- for this text's walks alone
set_option linter.unusedVariables false
set_option linter.unusedSimpArgs false

end Go.Proofs.YtmofdacfijobdaaDoor.EValueFalls

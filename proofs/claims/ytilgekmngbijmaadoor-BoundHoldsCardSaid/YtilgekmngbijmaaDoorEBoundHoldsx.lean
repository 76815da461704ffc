/- The functions that the law comes to, as plain functions, and for each a proof that the Go code comes to just these answers. Written by a program of this claim. Conditions: each theorem bears its own. -/
import Derived.Test.YtilgekmngbijmaaDoorEBoundHoldsx0
import Derived.Test.YtilgekmngbijmaaDoorEBoundHoldsx1
import Derived.Test.YtilgekmngbijmaaDoorEBoundHoldsx2
import Derived.Test.YtilgekmngbijmaaDoorEBoundHoldsx3
import Derived.Test.YtilgekmngbijmaaDoorEBoundHoldsx4
import Derived.Test.YtilgekmngbijmaaDoorEBoundHoldsx5
import Derived.Test.YtilgekmngbijmaaDoorEBoundHoldsx6
namespace Go.Proofs.YtilgekmngbijmaaDoor.EBoundHolds
open Go.RowKit Go.Proofs.YtilgekmngbijmaaDoorW.PrintWords Go.Proofs.YtilgekmngbijmaaDoorW.PrintLast Go.Proofs.YtilgekmngbijmaaDoorW.PrintMore Go.Proofs.YtilgekmngbijmaaDoorW.PrintOpen
attribute [local go_sem] max2_int min2_int max_two min_two max_three min_three max_four min_four   -- for this text's walks alone
set_option linter.unusedVariables false
set_option linter.unusedSimpArgs false

end Go.Proofs.YtilgekmngbijmaaDoor.EBoundHolds

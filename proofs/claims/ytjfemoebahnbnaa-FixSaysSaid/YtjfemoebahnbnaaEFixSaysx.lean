/- The functions that the law comes to, as plain functions, and for each a proof that the Go code comes to just these answers. Written by a program of this claim. Conditions: each theorem bears its own. -/
import Derived.Test.YtjfemoebahnbnaaEFixSaysx0
import Derived.Test.YtjfemoebahnbnaaEFixSaysx1
import Derived.Test.YtjfemoebahnbnaaEFixSaysx2
import Derived.Test.YtjfemoebahnbnaaEFixSaysx3
import Derived.Test.YtjfemoebahnbnaaEFixSaysx4
import Derived.Test.YtjfemoebahnbnaaEFixSaysx5
import Derived.Test.YtjfemoebahnbnaaEFixSaysx6
namespace Go.Proofs.Ytjfemoebahnbnaa.EFixSays
open Go.RowKit Go.Proofs.YtjfemoebahnbnaaW.PrintWords Go.Proofs.YtjfemoebahnbnaaW.PrintLast Go.Proofs.YtjfemoebahnbnaaW.PrintMore Go.Proofs.YtjfemoebahnbnaaW.PrintOpen
attribute [local go_sem] max2_int min2_int max_two min_two max_three min_three max_four min_four   -- for this text's walks alone
set_option linter.unusedVariables false
set_option linter.unusedSimpArgs false

end Go.Proofs.Ytjfemoebahnbnaa.EFixSays

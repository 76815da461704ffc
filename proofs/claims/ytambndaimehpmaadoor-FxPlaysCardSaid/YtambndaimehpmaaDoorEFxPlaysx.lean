/- The functions that the law comes to, as plain functions, and for each a proof that the Go code comes to just these answers. Written by a program of this claim. Conditions: each theorem bears its own. -/
import Derived.Test.YtambndaimehpmaaDoorEFxPlaysx0
import Derived.Test.YtambndaimehpmaaDoorEFxPlaysx1
import Derived.Test.YtambndaimehpmaaDoorEFxPlaysx2
import Derived.Test.YtambndaimehpmaaDoorEFxPlaysx3
import Derived.Test.YtambndaimehpmaaDoorEFxPlaysx4
import Derived.Test.YtambndaimehpmaaDoorEFxPlaysx5
namespace Go.Proofs.YtambndaimehpmaaDoor.EFxPlays
open Go.RowKit Go.Proofs.YtambndaimehpmaaDoorW.PrintWords Go.Proofs.YtambndaimehpmaaDoorW.PrintLast Go.Proofs.YtambndaimehpmaaDoorW.PrintMore Go.Proofs.YtambndaimehpmaaDoorW.PrintOpen
attribute [local go_sem] max2_int min2_int max_two min_two max_three min_three max_four min_four   -- for this text's walks alone
set_option linter.unusedVariables false
set_option linter.unusedSimpArgs false

end Go.Proofs.YtambndaimehpmaaDoor.EFxPlays

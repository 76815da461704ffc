/- The functions that the law comes to, as plain functions, and for each a proof that the Go code comes to just these answers. Written by a program of this claim. Conditions: each theorem bears its own. -/
import Derived.Test.YtcmdhgcaldpioaaDoorEFundSizesx0
import Derived.Test.YtcmdhgcaldpioaaDoorEFundSizesx1
import Derived.Test.YtcmdhgcaldpioaaDoorEFundSizesx2
import Derived.Test.YtcmdhgcaldpioaaDoorEFundSizesx3
import Derived.Test.YtcmdhgcaldpioaaDoorEFundSizesx4
import Derived.Test.YtcmdhgcaldpioaaDoorEFundSizesx5
import Derived.Test.YtcmdhgcaldpioaaDoorEFundSizesx6
import Derived.Test.YtcmdhgcaldpioaaDoorEFundSizesx7
import Derived.Test.YtcmdhgcaldpioaaDoorEFundSizesx8
namespace Go.Proofs.YtcmdhgcaldpioaaDoor.EFundSizes
open Go.RowKit Go.Proofs.YtcmdhgcaldpioaaDoorW.PrintWords Go.Proofs.YtcmdhgcaldpioaaDoorW.PrintLast Go.Proofs.YtcmdhgcaldpioaaDoorW.PrintMore Go.Proofs.YtcmdhgcaldpioaaDoorW.PrintOpen
attribute [local go_sem] max2_int min2_int max_two min_two max_three min_three max_four min_four   -- for this text's walks alone
set_option linter.unusedVariables false
set_option linter.unusedSimpArgs false

end Go.Proofs.YtcmdhgcaldpioaaDoor.EFundSizes

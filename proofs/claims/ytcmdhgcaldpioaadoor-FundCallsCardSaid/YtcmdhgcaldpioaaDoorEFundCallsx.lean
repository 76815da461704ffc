/- The functions that the law comes to, as plain functions, and for each a proof that the Go code comes to just these answers. Written by a program of this claim. Conditions: each theorem bears its own. -/
import Derived.Test.YtcmdhgcaldpioaaDoorEFundCallsx0
import Derived.Test.YtcmdhgcaldpioaaDoorEFundCallsx1
import Derived.Test.YtcmdhgcaldpioaaDoorEFundCallsx2
import Derived.Test.YtcmdhgcaldpioaaDoorEFundCallsx3
import Derived.Test.YtcmdhgcaldpioaaDoorEFundCallsx4
import Derived.Test.YtcmdhgcaldpioaaDoorEFundCallsx5
import Derived.Test.YtcmdhgcaldpioaaDoorEFundCallsx6
import Derived.Test.YtcmdhgcaldpioaaDoorEFundCallsx7
namespace Go.Proofs.YtcmdhgcaldpioaaDoor.EFundCalls
open Go.RowKit Go.Proofs.YtcmdhgcaldpioaaDoorW.PrintWords Go.Proofs.YtcmdhgcaldpioaaDoorW.PrintLast Go.Proofs.YtcmdhgcaldpioaaDoorW.PrintMore Go.Proofs.YtcmdhgcaldpioaaDoorW.PrintOpen
attribute [local go_sem] max2_int min2_int max_two min_two max_three min_three max_four min_four   -- for this text's walks alone
set_option linter.unusedVariables false
set_option linter.unusedSimpArgs false

end Go.Proofs.YtcmdhgcaldpioaaDoor.EFundCalls

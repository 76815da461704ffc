/- The functions that the law comes to, as plain functions, and for each a proof that the Go code comes to just these answers. Written by a program of this claim. Conditions: each theorem bears its own. -/
import Derived.Test.YtnkpfkniebhfkaaDoorEMoneySaysx0
import Derived.Test.YtnkpfkniebhfkaaDoorEMoneySaysx1
import Derived.Test.YtnkpfkniebhfkaaDoorEMoneySaysx2
import Derived.Test.YtnkpfkniebhfkaaDoorEMoneySaysx3
import Derived.Test.YtnkpfkniebhfkaaDoorEMoneySaysx4
import Derived.Test.YtnkpfkniebhfkaaDoorEMoneySaysx5
import Derived.Test.YtnkpfkniebhfkaaDoorEMoneySaysx6
import Derived.Test.YtnkpfkniebhfkaaDoorEMoneySaysx7
namespace Go.Proofs.YtnkpfkniebhfkaaDoor.EMoneySays
open Go.RowKit Go.Proofs.YtnkpfkniebhfkaaDoorW.PrintWords Go.Proofs.YtnkpfkniebhfkaaDoorW.PrintLast Go.Proofs.YtnkpfkniebhfkaaDoorW.PrintMore Go.Proofs.YtnkpfkniebhfkaaDoorW.PrintOpen
attribute [local go_sem] max2_int min2_int max_two min_two max_three min_three max_four min_four   -- for this text's walks alone
set_option linter.unusedVariables false
set_option linter.unusedSimpArgs false

end Go.Proofs.YtnkpfkniebhfkaaDoor.EMoneySays

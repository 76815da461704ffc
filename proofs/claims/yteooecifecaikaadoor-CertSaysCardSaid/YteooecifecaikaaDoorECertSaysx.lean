/- The functions that the law comes to, as plain functions, and for each a proof that the Go code comes to just these answers. Written by a program of this claim. Conditions: each theorem bears its own. -/
import Derived.Test.YteooecifecaikaaDoorECertSaysx0
import Derived.Test.YteooecifecaikaaDoorECertSaysx1
import Derived.Test.YteooecifecaikaaDoorECertSaysx2
import Derived.Test.YteooecifecaikaaDoorECertSaysx3
import Derived.Test.YteooecifecaikaaDoorECertSaysx4
import Derived.Test.YteooecifecaikaaDoorECertSaysx5
import Derived.Test.YteooecifecaikaaDoorECertSaysx6
import Derived.Test.YteooecifecaikaaDoorECertSaysx7
import Derived.Test.YteooecifecaikaaDoorECertSaysx8
import Derived.Test.YteooecifecaikaaDoorECertSaysx9
import Derived.Test.YteooecifecaikaaDoorECertSaysx10
import Derived.Test.YteooecifecaikaaDoorECertSaysx11
import Derived.Test.YteooecifecaikaaDoorECertSaysx12
import Derived.Test.YteooecifecaikaaDoorECertSaysx13
import Derived.Test.YteooecifecaikaaDoorECertSaysx14
import Derived.Test.YteooecifecaikaaDoorECertSaysx15
namespace Go.Proofs.YteooecifecaikaaDoor.ECertSays
open Go.RowKit Go.Proofs.YteooecifecaikaaDoorW.PrintWords Go.Proofs.YteooecifecaikaaDoorW.PrintLast Go.Proofs.YteooecifecaikaaDoorW.PrintMore Go.Proofs.YteooecifecaikaaDoorW.PrintOpen
attribute [local go_sem] max2_int min2_int max_two min_two max_three min_three max_four min_four   -- for this text's walks alone
set_option linter.unusedVariables false
set_option linter.unusedSimpArgs false

end Go.Proofs.YteooecifecaikaaDoor.ECertSays

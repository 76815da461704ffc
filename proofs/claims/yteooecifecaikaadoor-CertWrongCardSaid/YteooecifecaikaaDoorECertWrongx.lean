/- The functions that the law comes to, as plain functions, and for each a proof that the Go code comes to just these answers. Written by a program of this claim. Conditions: each theorem bears its own. -/
import Derived.Test.YteooecifecaikaaDoorECertWrongx0
import Derived.Test.YteooecifecaikaaDoorECertWrongx1
import Derived.Test.YteooecifecaikaaDoorECertWrongx2
import Derived.Test.YteooecifecaikaaDoorECertWrongx3
import Derived.Test.YteooecifecaikaaDoorECertWrongx4
import Derived.Test.YteooecifecaikaaDoorECertWrongx5
import Derived.Test.YteooecifecaikaaDoorECertWrongx6
import Derived.Test.YteooecifecaikaaDoorECertWrongx7
import Derived.Test.YteooecifecaikaaDoorECertWrongx8
import Derived.Test.YteooecifecaikaaDoorECertWrongx9
import Derived.Test.YteooecifecaikaaDoorECertWrongx10
namespace Go.Proofs.YteooecifecaikaaDoor.ECertWrong
open Go.RowKit Go.Proofs.YteooecifecaikaaDoorW.PrintWords Go.Proofs.YteooecifecaikaaDoorW.PrintLast Go.Proofs.YteooecifecaikaaDoorW.PrintMore Go.Proofs.YteooecifecaikaaDoorW.PrintOpen
attribute [local go_sem] max2_int min2_int max_two min_two max_three min_three max_four min_four   -- for this text's walks alone
set_option linter.unusedVariables false
set_option linter.unusedSimpArgs false

end Go.Proofs.YteooecifecaikaaDoor.ECertWrong

/- The functions that the law comes to, as plain functions, and for each a proof that the Go code comes to just these answers. Written by a program of this claim. Conditions: each theorem bears its own. -/
import Derived.Test.YtelabafoknmkcaaDoorERecSaysx0
import Derived.Test.YtelabafoknmkcaaDoorERecSaysx1
import Derived.Test.YtelabafoknmkcaaDoorERecSaysx2
import Derived.Test.YtelabafoknmkcaaDoorERecSaysx3
import Derived.Test.YtelabafoknmkcaaDoorERecSaysx4
import Derived.Test.YtelabafoknmkcaaDoorERecSaysx5
import Derived.Test.YtelabafoknmkcaaDoorERecSaysx6
namespace Go.Proofs.YtelabafoknmkcaaDoor.ERecSays
open Go.RowKit Go.Proofs.YtelabafoknmkcaaDoorW.PrintWords Go.Proofs.YtelabafoknmkcaaDoorW.PrintLast Go.Proofs.YtelabafoknmkcaaDoorW.PrintMore Go.Proofs.YtelabafoknmkcaaDoorW.PrintOpen
attribute [local go_sem] max2_int min2_int max_two min_two max_three min_three max_four min_four   -- for this text's walks alone
set_option linter.unusedVariables false
set_option linter.unusedSimpArgs false

end Go.Proofs.YtelabafoknmkcaaDoor.ERecSays

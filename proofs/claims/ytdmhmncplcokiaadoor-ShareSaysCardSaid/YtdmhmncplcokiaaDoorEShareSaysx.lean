/- The functions that the law comes to, as plain functions, and for each a proof that the Go code comes to just these answers. Written by a program of this claim. Conditions: each theorem bears its own. -/
import Derived.Test.YtdmhmncplcokiaaDoorEShareSaysx0
import Derived.Test.YtdmhmncplcokiaaDoorEShareSaysx1
import Derived.Test.YtdmhmncplcokiaaDoorEShareSaysx2
import Derived.Test.YtdmhmncplcokiaaDoorEShareSaysx3
import Derived.Test.YtdmhmncplcokiaaDoorEShareSaysx4
import Derived.Test.YtdmhmncplcokiaaDoorEShareSaysx5
import Derived.Test.YtdmhmncplcokiaaDoorEShareSaysx6
import Derived.Test.YtdmhmncplcokiaaDoorEShareSaysx7
import Derived.Test.YtdmhmncplcokiaaDoorEShareSaysx8
import Derived.Test.YtdmhmncplcokiaaDoorEShareSaysx9
namespace Go.Proofs.YtdmhmncplcokiaaDoor.EShareSays
open Go.RowKit Go.Proofs.YtdmhmncplcokiaaDoorW.PrintWords Go.Proofs.YtdmhmncplcokiaaDoorW.PrintLast Go.Proofs.YtdmhmncplcokiaaDoorW.PrintMore Go.Proofs.YtdmhmncplcokiaaDoorW.PrintOpen
attribute [local go_sem] max2_int min2_int max_two min_two max_three min_three max_four min_four   -- for this text's walks alone
set_option linter.unusedVariables false
set_option linter.unusedSimpArgs false

end Go.Proofs.YtdmhmncplcokiaaDoor.EShareSays

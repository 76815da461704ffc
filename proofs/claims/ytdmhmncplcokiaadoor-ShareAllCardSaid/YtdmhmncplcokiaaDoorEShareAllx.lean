/- The functions that the law comes to, as plain functions, and for each a proof that the Go code comes to just these answers. Written by a program of this claim. Conditions: each theorem bears its own. -/
import Derived.Test.YtdmhmncplcokiaaDoorEShareAllx0
import Derived.Test.YtdmhmncplcokiaaDoorEShareAllx1
import Derived.Test.YtdmhmncplcokiaaDoorEShareAllx2
import Derived.Test.YtdmhmncplcokiaaDoorEShareAllx3
import Derived.Test.YtdmhmncplcokiaaDoorEShareAllx4
import Derived.Test.YtdmhmncplcokiaaDoorEShareAllx5
import Derived.Test.YtdmhmncplcokiaaDoorEShareAllx6
import Derived.Test.YtdmhmncplcokiaaDoorEShareAllx7
namespace Go.Proofs.YtdmhmncplcokiaaDoor.EShareAll
open Go.RowKit Go.Proofs.YtdmhmncplcokiaaDoorW.PrintWords Go.Proofs.YtdmhmncplcokiaaDoorW.PrintLast Go.Proofs.YtdmhmncplcokiaaDoorW.PrintMore Go.Proofs.YtdmhmncplcokiaaDoorW.PrintOpen
attribute [local go_sem] max2_int min2_int max_two min_two max_three min_three max_four min_four   -- for this text's walks alone
set_option linter.unusedVariables false
set_option linter.unusedSimpArgs false

end Go.Proofs.YtdmhmncplcokiaaDoor.EShareAll

/- The functions that the law comes to, as plain functions, and for each a proof that the Go code comes to just these answers. Written by a program of this claim. Conditions: each theorem bears its own. -/
import Derived.Test.YtlalofmilhakjaaDoorELotsOrderx0
import Derived.Test.YtlalofmilhakjaaDoorELotsOrderx1
import Derived.Test.YtlalofmilhakjaaDoorELotsOrderx2
import Derived.Test.YtlalofmilhakjaaDoorELotsOrderx3
import Derived.Test.YtlalofmilhakjaaDoorELotsOrderx4
import Derived.Test.YtlalofmilhakjaaDoorELotsOrderx5
import Derived.Test.YtlalofmilhakjaaDoorELotsOrderx6
import Derived.Test.YtlalofmilhakjaaDoorELotsOrderx7
namespace Go.Proofs.YtlalofmilhakjaaDoor.ELotsOrder
open Go.RowKit Go.Proofs.YtlalofmilhakjaaDoorW.PrintWords Go.Proofs.YtlalofmilhakjaaDoorW.PrintLast Go.Proofs.YtlalofmilhakjaaDoorW.PrintMore Go.Proofs.YtlalofmilhakjaaDoorW.PrintOpen
attribute [local go_sem] max2_int min2_int max_two min_two max_three min_three max_four min_four   -- for this text's walks alone
set_option linter.unusedVariables false
set_option linter.unusedSimpArgs false

end Go.Proofs.YtlalofmilhakjaaDoor.ELotsOrder

/- The functions that the law comes to, as plain functions, and for each a proof that the Go code comes to just these answers. Written by a program of this claim. Conditions: each theorem bears its own. -/
import Derived.Test.YtlalofmilhakjaaDoorELotsGrowx0
import Derived.Test.YtlalofmilhakjaaDoorELotsGrowx1
import Derived.Test.YtlalofmilhakjaaDoorELotsGrowx2
import Derived.Test.YtlalofmilhakjaaDoorELotsGrowx3
import Derived.Test.YtlalofmilhakjaaDoorELotsGrowx4
import Derived.Test.YtlalofmilhakjaaDoorELotsGrowx5
import Derived.Test.YtlalofmilhakjaaDoorELotsGrowx6
import Derived.Test.YtlalofmilhakjaaDoorELotsGrowx7
import Derived.Test.YtlalofmilhakjaaDoorELotsGrowx8
namespace Go.Proofs.YtlalofmilhakjaaDoor.ELotsGrow
open Go.RowKit Go.Proofs.YtlalofmilhakjaaDoorW.PrintWords Go.Proofs.YtlalofmilhakjaaDoorW.PrintLast Go.Proofs.YtlalofmilhakjaaDoorW.PrintMore Go.Proofs.YtlalofmilhakjaaDoorW.PrintOpen
attribute [local go_sem] max2_int min2_int max_two min_two max_three min_three max_four min_four   -- for this text's walks alone
set_option linter.unusedVariables false
set_option linter.unusedSimpArgs false

end Go.Proofs.YtlalofmilhakjaaDoor.ELotsGrow

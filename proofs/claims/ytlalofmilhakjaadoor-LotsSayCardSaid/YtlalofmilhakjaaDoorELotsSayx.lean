/- The functions that the law comes to, as plain functions, and for each a proof that the Go code comes to just these answers. Written by a program of this claim. Conditions: each theorem bears its own. -/
import Derived.Test.YtlalofmilhakjaaDoorELotsSayx0
import Derived.Test.YtlalofmilhakjaaDoorELotsSayx1
import Derived.Test.YtlalofmilhakjaaDoorELotsSayx2
import Derived.Test.YtlalofmilhakjaaDoorELotsSayx3
import Derived.Test.YtlalofmilhakjaaDoorELotsSayx4
import Derived.Test.YtlalofmilhakjaaDoorELotsSayx5
import Derived.Test.YtlalofmilhakjaaDoorELotsSayx6
import Derived.Test.YtlalofmilhakjaaDoorELotsSayx7
import Derived.Test.YtlalofmilhakjaaDoorELotsSayx8
import Derived.Test.YtlalofmilhakjaaDoorELotsSayx9
import Derived.Test.YtlalofmilhakjaaDoorELotsSayx10
import Derived.Test.YtlalofmilhakjaaDoorELotsSayx11
import Derived.Test.YtlalofmilhakjaaDoorELotsSayx12
import Derived.Test.YtlalofmilhakjaaDoorELotsSayx13
import Derived.Test.YtlalofmilhakjaaDoorELotsSayx14
namespace Go.Proofs.YtlalofmilhakjaaDoor.ELotsSay
open Go.RowKit Go.Proofs.YtlalofmilhakjaaDoorW.PrintWords Go.Proofs.YtlalofmilhakjaaDoorW.PrintLast Go.Proofs.YtlalofmilhakjaaDoorW.PrintMore Go.Proofs.YtlalofmilhakjaaDoorW.PrintOpen
attribute [local go_sem] max2_int min2_int max_two min_two max_three min_three max_four min_four   -- for this text's walks alone
set_option linter.unusedVariables false
set_option linter.unusedSimpArgs false

end Go.Proofs.YtlalofmilhakjaaDoor.ELotsSay

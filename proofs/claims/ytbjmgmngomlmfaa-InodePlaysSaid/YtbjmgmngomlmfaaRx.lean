-- Printed for Ytbjmgmngomlmfaa by hprint.py, a program of this session over the kit's print.py, some functions taken from texts by hand.
import Derived.Test.YtbjmgmngomlmfaaRx0
import Derived.Test.YtbjmgmngomlmfaaRx1
import Derived.Test.YtbjmgmngomlmfaaRx2
import Derived.Test.YtbjmgmngomlmfaaRx3
namespace Go.Proofs.Ytbjmgmngomlmfaa.R
open Go.RowKit Go.Proofs.YtbjmgmngomlmfaaW.PrintWords Go.Proofs.YtbjmgmngomlmfaaW.PrintLast Go.Proofs.YtbjmgmngomlmfaaW.PrintMore
attribute [local go_sem] max2_int min2_int max_two min_two max_three min_three max_four min_four   -- for this text's walks alone
set_option linter.unusedVariables false
set_option linter.unusedSimpArgs false

end Go.Proofs.Ytbjmgmngomlmfaa.R

-- printed by a program of this session (wip/tools/mkprint.py)
import Derived.Test.YtempibbfdojfiabPPolyForwardx0
import Derived.Test.YtempibbfdojfiabPPolyForwardx1
import Derived.Test.YtempibbfdojfiabPPolyForwardx2
import Derived.Test.YtempibbfdojfiabPPolyForwardx3
import Derived.Test.YtempibbfdojfiabPPolyForwardx4
import Derived.Test.YtempibbfdojfiabPPolyForwardx5
namespace Go.Proofs.Ytempibbfdojfiab.PPolyForward
open Go.RowKit Go.Proofs.YtempibbfdojfiabW.PrintWords Go.Proofs.YtempibbfdojfiabW.PrintLast Go.Proofs.YtempibbfdojfiabW.PrintMore
attribute [local go_sem] max2_int min2_int max_two min_two max_three min_three max_four min_four   -- for this text's walks alone
set_option linter.unusedVariables false
set_option linter.unusedSimpArgs false

end Go.Proofs.Ytempibbfdojfiab.PPolyForward

-- printed by a program of this session (wip/tools/mkprint.py)
import Derived.Test.YtempibbfdojfiabPPolyBasesx0
import Derived.Test.YtempibbfdojfiabPPolyBasesx1
import Derived.Test.YtempibbfdojfiabPPolyBasesx2
import Derived.Test.YtempibbfdojfiabPPolyBasesx3
import Derived.Test.YtempibbfdojfiabPPolyBasesx4
namespace Go.Proofs.Ytempibbfdojfiab.PPolyBases
open Go.RowKit Go.Proofs.YtempibbfdojfiabW.PrintWords Go.Proofs.YtempibbfdojfiabW.PrintLast Go.Proofs.YtempibbfdojfiabW.PrintMore
attribute [local go_sem] max2_int min2_int max_two min_two max_three min_three max_four min_four   -- for this text's walks alone
set_option linter.unusedVariables false
set_option linter.unusedSimpArgs false

end Go.Proofs.Ytempibbfdojfiab.PPolyBases

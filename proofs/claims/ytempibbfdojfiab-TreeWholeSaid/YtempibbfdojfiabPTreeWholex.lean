-- printed by a program of this session (wip/tools/mkprint.py)
import Derived.Test.YtempibbfdojfiabPTreeWholex0
import Derived.Test.YtempibbfdojfiabPTreeWholex1
import Derived.Test.YtempibbfdojfiabPTreeWholex2
import Derived.Test.YtempibbfdojfiabPTreeWholex3
import Derived.Test.YtempibbfdojfiabPTreeWholex4
import Derived.Test.YtempibbfdojfiabPTreeWholex5
import Derived.Test.YtempibbfdojfiabPTreeWholex6
import Derived.Test.YtempibbfdojfiabPTreeWholex7
import Derived.Test.YtempibbfdojfiabPTreeWholex8
namespace Go.Proofs.Ytempibbfdojfiab.PTreeWhole
open Go.RowKit Go.Proofs.YtempibbfdojfiabW.PrintWords Go.Proofs.YtempibbfdojfiabW.PrintLast Go.Proofs.YtempibbfdojfiabW.PrintMore
attribute [local go_sem] max2_int min2_int max_two min_two max_three min_three max_four min_four   -- for this text's walks alone
set_option linter.unusedVariables false
set_option linter.unusedSimpArgs false

end Go.Proofs.Ytempibbfdojfiab.PTreeWhole

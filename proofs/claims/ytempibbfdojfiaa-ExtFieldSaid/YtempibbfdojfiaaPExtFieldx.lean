-- printed by a program of this session (wip/tools/mkprint.py)
import Derived.Test.YtempibbfdojfiaaPExtFieldx0
import Derived.Test.YtempibbfdojfiaaPExtFieldx1
import Derived.Test.YtempibbfdojfiaaPExtFieldx2
import Derived.Test.YtempibbfdojfiaaPExtFieldx3
import Derived.Test.YtempibbfdojfiaaPExtFieldx4
import Derived.Test.YtempibbfdojfiaaPExtFieldx5
import Derived.Test.YtempibbfdojfiaaPExtFieldx6
namespace Go.Proofs.Ytempibbfdojfiaa.PExtField
open Go.RowKit Go.Proofs.YtempibbfdojfiaaW.PrintWords Go.Proofs.YtempibbfdojfiaaW.PrintLast Go.Proofs.YtempibbfdojfiaaW.PrintMore
attribute [local go_sem] max2_int min2_int max_two min_two max_three min_three max_four min_four   -- for this text's walks alone
set_option linter.unusedVariables false
set_option linter.unusedSimpArgs false

end Go.Proofs.Ytempibbfdojfiaa.PExtField

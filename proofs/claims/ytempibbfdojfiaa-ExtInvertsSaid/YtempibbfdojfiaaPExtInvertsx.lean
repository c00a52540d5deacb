-- printed by a program of this session (wip/tools/mkprint.py)
import Derived.Test.YtempibbfdojfiaaPExtInvertsx0
import Derived.Test.YtempibbfdojfiaaPExtInvertsx1
import Derived.Test.YtempibbfdojfiaaPExtInvertsx2
import Derived.Test.YtempibbfdojfiaaPExtInvertsx3
import Derived.Test.YtempibbfdojfiaaPExtInvertsx4
import Derived.Test.YtempibbfdojfiaaPExtInvertsx5
namespace Go.Proofs.Ytempibbfdojfiaa.PExtInverts
open Go.RowKit Go.Proofs.YtempibbfdojfiaaW.PrintWords Go.Proofs.YtempibbfdojfiaaW.PrintLast Go.Proofs.YtempibbfdojfiaaW.PrintMore
attribute [local go_sem] max2_int min2_int max_two min_two max_three min_three max_four min_four   -- for this text's walks alone
set_option linter.unusedVariables false
set_option linter.unusedSimpArgs false

end Go.Proofs.Ytempibbfdojfiaa.PExtInverts

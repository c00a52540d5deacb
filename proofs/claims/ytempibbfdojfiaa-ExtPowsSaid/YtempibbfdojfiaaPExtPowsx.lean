-- printed by a program of this session (wip/tools/mkprint.py)
import Derived.Test.YtempibbfdojfiaaPExtPowsx0
import Derived.Test.YtempibbfdojfiaaPExtPowsx1
import Derived.Test.YtempibbfdojfiaaPExtPowsx2
import Derived.Test.YtempibbfdojfiaaPExtPowsx3
import Derived.Test.YtempibbfdojfiaaPExtPowsx4
import Derived.Test.YtempibbfdojfiaaPExtPowsx5
namespace Go.Proofs.Ytempibbfdojfiaa.PExtPows
open Go.RowKit Go.Proofs.YtempibbfdojfiaaW.PrintWords Go.Proofs.YtempibbfdojfiaaW.PrintLast Go.Proofs.YtempibbfdojfiaaW.PrintMore
attribute [local go_sem] max2_int min2_int max_two min_two max_three min_three max_four min_four   -- for this text's walks alone
set_option linter.unusedVariables false
set_option linter.unusedSimpArgs false

end Go.Proofs.Ytempibbfdojfiaa.PExtPows

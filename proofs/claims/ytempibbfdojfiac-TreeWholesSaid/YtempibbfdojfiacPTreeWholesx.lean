-- printed by a program of this session (wip/tools/mkprint.py)
import Derived.Test.YtempibbfdojfiacPTreeWholesx0
import Derived.Test.YtempibbfdojfiacPTreeWholesx1
import Derived.Test.YtempibbfdojfiacPTreeWholesx2
import Derived.Test.YtempibbfdojfiacPTreeWholesx3
import Derived.Test.YtempibbfdojfiacPTreeWholesx4
import Derived.Test.YtempibbfdojfiacPTreeWholesx5
import Derived.Test.YtempibbfdojfiacPTreeWholesx6
import Derived.Test.YtempibbfdojfiacPTreeWholesx7
import Derived.Test.YtempibbfdojfiacPTreeWholesx8
namespace Go.Proofs.Ytempibbfdojfiac.PTreeWholes
open Go.RowKit Go.Proofs.YtempibbfdojfiacW.PrintWords Go.Proofs.YtempibbfdojfiacW.PrintLast Go.Proofs.YtempibbfdojfiacW.PrintMore
attribute [local go_sem] max2_int min2_int max_two min_two max_three min_three max_four min_four   -- for this text's walks alone
set_option linter.unusedVariables false
set_option linter.unusedSimpArgs false

end Go.Proofs.Ytempibbfdojfiac.PTreeWholes

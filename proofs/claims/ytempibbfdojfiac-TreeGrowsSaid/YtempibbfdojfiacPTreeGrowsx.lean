-- printed by a program of this session (wip/tools/mkprint.py)
import Derived.Test.YtempibbfdojfiacPTreeGrowsx0
import Derived.Test.YtempibbfdojfiacPTreeGrowsx1
import Derived.Test.YtempibbfdojfiacPTreeGrowsx2
import Derived.Test.YtempibbfdojfiacPTreeGrowsx3
import Derived.Test.YtempibbfdojfiacPTreeGrowsx4
import Derived.Test.YtempibbfdojfiacPTreeGrowsx5
import Derived.Test.YtempibbfdojfiacPTreeGrowsx6
import Derived.Test.YtempibbfdojfiacPTreeGrowsx7
import Derived.Test.YtempibbfdojfiacPTreeGrowsx8
import Derived.Test.YtempibbfdojfiacPTreeGrowsx9
namespace Go.Proofs.Ytempibbfdojfiac.PTreeGrows
open Go.RowKit Go.Proofs.YtempibbfdojfiacW.PrintWords Go.Proofs.YtempibbfdojfiacW.PrintLast Go.Proofs.YtempibbfdojfiacW.PrintMore
attribute [local go_sem] max2_int min2_int max_two min_two max_three min_three max_four min_four   -- for this text's walks alone
set_option linter.unusedVariables false
set_option linter.unusedSimpArgs false

end Go.Proofs.Ytempibbfdojfiac.PTreeGrows

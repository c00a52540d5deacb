-- printed by a program of this session (wip/tools/mkprint.py)
import Derived.Test.YtempibbfdojfiacPTreePathsx0
import Derived.Test.YtempibbfdojfiacPTreePathsx1
import Derived.Test.YtempibbfdojfiacPTreePathsx2
import Derived.Test.YtempibbfdojfiacPTreePathsx3
import Derived.Test.YtempibbfdojfiacPTreePathsx4
import Derived.Test.YtempibbfdojfiacPTreePathsx5
import Derived.Test.YtempibbfdojfiacPTreePathsx6
import Derived.Test.YtempibbfdojfiacPTreePathsx7
import Derived.Test.YtempibbfdojfiacPTreePathsx8
import Derived.Test.YtempibbfdojfiacPTreePathsx9
namespace Go.Proofs.Ytempibbfdojfiac.PTreePaths
open Go.RowKit Go.Proofs.YtempibbfdojfiacW.PrintWords Go.Proofs.YtempibbfdojfiacW.PrintLast Go.Proofs.YtempibbfdojfiacW.PrintMore
attribute [local go_sem] max2_int min2_int max_two min_two max_three min_three max_four min_four   -- for this text's walks alone
set_option linter.unusedVariables false
set_option linter.unusedSimpArgs false

end Go.Proofs.Ytempibbfdojfiac.PTreePaths

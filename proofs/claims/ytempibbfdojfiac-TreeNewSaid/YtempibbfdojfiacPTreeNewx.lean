-- printed by a program of this session (wip/tools/mkprint.py)
import Derived.Test.YtempibbfdojfiacPTreeNewx0
import Derived.Test.YtempibbfdojfiacPTreeNewx1
import Derived.Test.YtempibbfdojfiacPTreeNewx2
import Derived.Test.YtempibbfdojfiacPTreeNewx3
import Derived.Test.YtempibbfdojfiacPTreeNewx4
import Derived.Test.YtempibbfdojfiacPTreeNewx5
import Derived.Test.YtempibbfdojfiacPTreeNewx6
import Derived.Test.YtempibbfdojfiacPTreeNewx7
namespace Go.Proofs.Ytempibbfdojfiac.PTreeNew
open Go.RowKit Go.Proofs.YtempibbfdojfiacW.PrintWords Go.Proofs.YtempibbfdojfiacW.PrintLast Go.Proofs.YtempibbfdojfiacW.PrintMore
attribute [local go_sem] max2_int min2_int max_two min_two max_three min_three max_four min_four   -- for this text's walks alone
set_option linter.unusedVariables false
set_option linter.unusedSimpArgs false

end Go.Proofs.Ytempibbfdojfiac.PTreeNew

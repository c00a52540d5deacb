-- printed by a program of this session (wip/tools/mkprint.py)
import Derived.Test.YtempibbfdojfiacPTreeOnex0
import Derived.Test.YtempibbfdojfiacPTreeOnex1
import Derived.Test.YtempibbfdojfiacPTreeOnex2
import Derived.Test.YtempibbfdojfiacPTreeOnex3
import Derived.Test.YtempibbfdojfiacPTreeOnex4
import Derived.Test.YtempibbfdojfiacPTreeOnex5
import Derived.Test.YtempibbfdojfiacPTreeOnex6
namespace Go.Proofs.Ytempibbfdojfiac.PTreeOne
open Go.RowKit Go.Proofs.YtempibbfdojfiacW.PrintWords Go.Proofs.YtempibbfdojfiacW.PrintLast Go.Proofs.YtempibbfdojfiacW.PrintMore
attribute [local go_sem] max2_int min2_int max_two min_two max_three min_three max_four min_four   -- for this text's walks alone
set_option linter.unusedVariables false
set_option linter.unusedSimpArgs false

end Go.Proofs.Ytempibbfdojfiac.PTreeOne

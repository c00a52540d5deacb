-- printed by a program of this session (wip/tools/mkprint.py)
import Derived.Test.YtempibbfdojfiacPPolyStaysx0
import Derived.Test.YtempibbfdojfiacPPolyStaysx1
import Derived.Test.YtempibbfdojfiacPPolyStaysx2
import Derived.Test.YtempibbfdojfiacPPolyStaysx3
import Derived.Test.YtempibbfdojfiacPPolyStaysx4
import Derived.Test.YtempibbfdojfiacPPolyStaysx5
import Derived.Test.YtempibbfdojfiacPPolyStaysx6
import Derived.Test.YtempibbfdojfiacPPolyStaysx7
import Derived.Test.YtempibbfdojfiacPPolyStaysx8
namespace Go.Proofs.Ytempibbfdojfiac.PPolyStays
open Go.RowKit Go.Proofs.YtempibbfdojfiacW.PrintWords Go.Proofs.YtempibbfdojfiacW.PrintLast Go.Proofs.YtempibbfdojfiacW.PrintMore
attribute [local go_sem] max2_int min2_int max_two min_two max_three min_three max_four min_four   -- for this text's walks alone
set_option linter.unusedVariables false
set_option linter.unusedSimpArgs false

end Go.Proofs.Ytempibbfdojfiac.PPolyStays

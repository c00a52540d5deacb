-- printed by a program of this session (wip/tools/mkprint.py)
import Derived.Test.YtempibbfdojfiacPExtStaysx0
import Derived.Test.YtempibbfdojfiacPExtStaysx1
import Derived.Test.YtempibbfdojfiacPExtStaysx2
import Derived.Test.YtempibbfdojfiacPExtStaysx3
import Derived.Test.YtempibbfdojfiacPExtStaysx4
import Derived.Test.YtempibbfdojfiacPExtStaysx5
import Derived.Test.YtempibbfdojfiacPExtStaysx6
import Derived.Test.YtempibbfdojfiacPExtStaysx7
import Derived.Test.YtempibbfdojfiacPExtStaysx8
namespace Go.Proofs.Ytempibbfdojfiac.PExtStays
open Go.RowKit Go.Proofs.YtempibbfdojfiacW.PrintWords Go.Proofs.YtempibbfdojfiacW.PrintLast Go.Proofs.YtempibbfdojfiacW.PrintMore
attribute [local go_sem] max2_int min2_int max_two min_two max_three min_three max_four min_four   -- for this text's walks alone
set_option linter.unusedVariables false
set_option linter.unusedSimpArgs false

end Go.Proofs.Ytempibbfdojfiac.PExtStays

-- printed by a program of this session (wip/tools/mkprint.py)
import Derived.Test.YtempibbfdojfiaaPTreeStaysx0
import Derived.Test.YtempibbfdojfiaaPTreeStaysx1
import Derived.Test.YtempibbfdojfiaaPTreeStaysx2
import Derived.Test.YtempibbfdojfiaaPTreeStaysx3
import Derived.Test.YtempibbfdojfiaaPTreeStaysx4
import Derived.Test.YtempibbfdojfiaaPTreeStaysx5
import Derived.Test.YtempibbfdojfiaaPTreeStaysx6
import Derived.Test.YtempibbfdojfiaaPTreeStaysx7
import Derived.Test.YtempibbfdojfiaaPTreeStaysx8
namespace Go.Proofs.Ytempibbfdojfiaa.PTreeStays
open Go.RowKit Go.Proofs.YtempibbfdojfiaaW.PrintWords Go.Proofs.YtempibbfdojfiaaW.PrintLast Go.Proofs.YtempibbfdojfiaaW.PrintMore
attribute [local go_sem] max2_int min2_int max_two min_two max_three min_three max_four min_four   -- for this text's walks alone
set_option linter.unusedVariables false
set_option linter.unusedSimpArgs false

end Go.Proofs.Ytempibbfdojfiaa.PTreeStays

-- printed by a program of this session (wip/tools/mkprint.py)
import Derived.Test.YtempibbfdojfiacPExtCodesx0
import Derived.Test.YtempibbfdojfiacPExtCodesx1
import Derived.Test.YtempibbfdojfiacPExtCodesx2
import Derived.Test.YtempibbfdojfiacPExtCodesx3
import Derived.Test.YtempibbfdojfiacPExtCodesx4
import Derived.Test.YtempibbfdojfiacPExtCodesx5
import Derived.Test.YtempibbfdojfiacPExtCodesx6
import Derived.Test.YtempibbfdojfiacPExtCodesx7
import Derived.Test.YtempibbfdojfiacPExtCodesx8
namespace Go.Proofs.Ytempibbfdojfiac.PExtCodes
open Go.RowKit Go.Proofs.YtempibbfdojfiacW.PrintWords Go.Proofs.YtempibbfdojfiacW.PrintLast Go.Proofs.YtempibbfdojfiacW.PrintMore
attribute [local go_sem] max2_int min2_int max_two min_two max_three min_three max_four min_four   -- for this text's walks alone
set_option linter.unusedVariables false
set_option linter.unusedSimpArgs false

end Go.Proofs.Ytempibbfdojfiac.PExtCodes

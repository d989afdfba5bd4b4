/- Texts joined into one file (wip/tools/pack.py): Fn4 -/
import Derived.Test.YtfiamddinkokbaaPB3
import Derived.Test.YtfiamddinkokbaaPB26
import Derived.Test.YtfiamddinkokbaaPB27
import Derived.Test.YtfiamddinkokbaaPB4
import Derived.Test.YtfiamddinkokbaaPB5
set_option linter.unusedVariables false
set_option linter.unusedSimpArgs false
namespace Go.Proofs.Ytfiamddinkokbaa.F
open Go.RowKit Go.Proofs.YtfiamddinkokbaaW.PrintWords Go.Proofs.YtfiamddinkokbaaW.PrintLast Go.Proofs.YtfiamddinkokbaaW.PrintMore
attribute [local go_sem] max2_int min2_int max_two min_two max_three min_three max_four min_four
end Go.Proofs.Ytfiamddinkokbaa.F

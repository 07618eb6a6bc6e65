/- Plain laws of ranges: the program's and the reference's test. No conditions. -/
import Derived.Test.YtgpakhlnjgehhaaOLoop
import Derived.Test.YtgpakhlnjgehhaaQf19
import Derived.Test.YtgpakhlnjgehhaaQf16
import Derived.Test.YtgpakhlnjgehhaaQf18
namespace Go.Proofs.Ytgpakhlnjgehhaa.Pure
open Go.RowKit Go.Proofs.Ytgpakhlnjgehhaa.Q Go.Proofs.YtgpakhlnjgehhaaW.PrintWords Go.Proofs.YtgpakhlnjgehhaaW.PrintLast Go.Proofs.YtgpakhlnjgehhaaW.PrintMore
set_option linter.unusedVariables false
set_option linter.unusedSimpArgs false
theorem in_inB (a b c : Int) : spec_l00In.f a b c = some (inB a b c) := between_inB a b c
end Go.Proofs.Ytgpakhlnjgehhaa.Pure

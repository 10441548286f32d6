/- Printed by a program of this session (the kit's print with small changes of ours): each Go function named here as a plain function, and the proof that the code comes to its answers. No condition of its own. -/
import Derived.Test.YthamhaomfdgdjaaPAx0
import Derived.Test.YthamhaomfdgdjaaPAx1
namespace Go.Proofs.Ythamhaomfdgdjaa.PA
open Go.RowKit Go.Proofs.YthamhaomfdgdjaaW.PrintWords Go.Proofs.YthamhaomfdgdjaaW.PrintLast Go.Proofs.YthamhaomfdgdjaaW.PrintMore
attribute [local go_sem] max2_int min2_int max_two min_two max_three min_three max_four min_four   -- for this text's walks alone
set_option linter.unusedVariables false
set_option linter.unusedSimpArgs false

end Go.Proofs.Ythamhaomfdgdjaa.PA

-- Written by wip/myprint.py, a program of this session's, over the kit's print and this session's given texts. Not trusted: Lean checks it.
import Derived.Test.YtojlgjdebokelabDoorPLibAx0
import Derived.Test.YtojlgjdebokelabDoorPLibAx1
namespace Go.Proofs.YtojlgjdebokelabDoor.PLibA
open Go.RowKit Go.Proofs.YtojlgjdebokelabDoorW.PrintWords Go.Proofs.YtojlgjdebokelabDoorW.PrintLast Go.Proofs.YtojlgjdebokelabDoorW.PrintMore
attribute [local go_sem] max2_int min2_int max_two min_two max_three min_three max_four min_four   -- for this text's walks alone
set_option linter.unusedVariables false
set_option linter.unusedSimpArgs false

end Go.Proofs.YtojlgjdebokelabDoor.PLibA

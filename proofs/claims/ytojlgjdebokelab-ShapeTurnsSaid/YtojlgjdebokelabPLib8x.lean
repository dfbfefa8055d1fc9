-- Written by wip/myprint.py, a program of this session's, over the kit's print and this session's given texts. Not trusted: Lean checks it.
import Derived.Test.YtojlgjdebokelabPLib8x0
import Derived.Test.YtojlgjdebokelabPLib8x1
namespace Go.Proofs.Ytojlgjdebokelab.PLib8
open Go.RowKit Go.Proofs.YtojlgjdebokelabW.PrintWords Go.Proofs.YtojlgjdebokelabW.PrintLast Go.Proofs.YtojlgjdebokelabW.PrintMore
attribute [local go_sem] max2_int min2_int max_two min_two max_three min_three max_four min_four   -- for this text's walks alone
set_option linter.unusedVariables false
set_option linter.unusedSimpArgs false

end Go.Proofs.Ytojlgjdebokelab.PLib8

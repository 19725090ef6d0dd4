/- Walks of the functions that the laws of layer 19 (codes) reach: each call comes to the answer of its plain function, which stands beside it. No conditions. -/
import Derived.Test.YtbknihgibcbdaaaDx0
import Derived.Test.YtbknihgibcbdaaaDx1
import Derived.Test.YtbknihgibcbdaaaDx2
import Derived.Test.YtbknihgibcbdaaaDx3
import Derived.Test.YtbknihgibcbdaaaDx4
import Derived.Test.YtbknihgibcbdaaaDx5
namespace Go.Proofs.Ytbknihgibcbdaaa.D
open Go.RowKit Go.Proofs.YtbknihgibcbdaaaW.PrintWords Go.Proofs.YtbknihgibcbdaaaW.PrintLast Go.Proofs.YtbknihgibcbdaaaW.PrintMore
attribute [local go_sem] max2_int min2_int max_two min_two max_three min_three max_four min_four   -- for this text's walks alone
set_option linter.unusedVariables false
set_option linter.unusedSimpArgs false

end Go.Proofs.Ytbknihgibcbdaaa.D

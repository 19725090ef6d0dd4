/- Walks of the functions that the laws of layer 10 (tlv) reach: each call comes to the answer of its plain function, which stands beside it. No conditions. -/
import Derived.Test.YtebapdkfndlpgaaDx0
import Derived.Test.YtebapdkfndlpgaaDx1
import Derived.Test.YtebapdkfndlpgaaDx2
import Derived.Test.YtebapdkfndlpgaaDx3
import Derived.Test.YtebapdkfndlpgaaDx4
import Derived.Test.YtebapdkfndlpgaaDx5
import Derived.Test.YtebapdkfndlpgaaDx6
import Derived.Test.YtebapdkfndlpgaaDx7
import Derived.Test.YtebapdkfndlpgaaDx8
namespace Go.Proofs.Ytebapdkfndlpgaa.D
open Go.RowKit Go.Proofs.YtebapdkfndlpgaaW.PrintWords Go.Proofs.YtebapdkfndlpgaaW.PrintLast Go.Proofs.YtebapdkfndlpgaaW.PrintMore
attribute [local go_sem] max2_int min2_int max_two min_two max_three min_three max_four min_four   -- for this text's walks alone
set_option linter.unusedVariables false
set_option linter.unusedSimpArgs false

end Go.Proofs.Ytebapdkfndlpgaa.D

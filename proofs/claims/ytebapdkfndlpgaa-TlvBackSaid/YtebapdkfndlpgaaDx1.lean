/- Walks of the functions that the laws of layer 10 (tlv) reach: each call comes to the answer of its plain function, which stands beside it. No conditions. -/
import Derived.Test.YtebapdkfndlpgaaDx0
namespace Go.Proofs.Ytebapdkfndlpgaa.D
open Go.RowKit Go.Proofs.YtebapdkfndlpgaaW.PrintWords Go.Proofs.YtebapdkfndlpgaaW.PrintLast Go.Proofs.YtebapdkfndlpgaaW.PrintMore
attribute [local go_sem] max2_int min2_int max_two min_two max_three min_three max_four min_four   -- for this text's walks alone
set_option linter.unusedVariables false
set_option linter.unusedSimpArgs false

theorem eqA42 (d : Nat) (w : World) (x0 y0 : Int) (x1 y1 : ByteArray) :
    (Op.equalIn (d + 2) 42 (.agg #[.int .i64 x0, .string x1]) (.agg #[.int .i64 y0, .string y1])).run Try.prog w = .ok (x0 == y0 && (x1.toList == y1.toList)) w := by
  refine eqA_of Try.underlying42 (by kernel_rfl) ?_
  refine eqf_cons (by rfl) (by go_simp; rfl) (by go_simp; rfl) (by go_simp) ?_
  exact eqf_last (by rfl) (by go_simp; rfl) (by go_simp; rfl) (by go_simp)
end Go.Proofs.Ytebapdkfndlpgaa.D

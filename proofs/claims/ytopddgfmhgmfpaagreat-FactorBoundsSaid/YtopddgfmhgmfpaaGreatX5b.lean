import Derived.Test.YtopddgfmhgmfpaaGreatC4
set_option linter.unusedVariables false
set_option linter.unusedSimpArgs false
set_option linter.unusedVariables false
namespace Go.Am
open Go Go.Proofs
set_option maxRecDepth 1000000
theorem run_mod3 : ACall Tryz.prog 12 [.sl (ul [1, 0, 0, 0, 1]), nU 3] [.new 2 [[.sl (ul [2, 1, 1]), nI 1], [.sl (ul [2, 2, 1]), nI 1]], .p (nI 0)] := closed (S := [64, 68, 135, 181, 140, 203, 266, 81, 152, 210]) 100000 (by kernel_rfl)
end Go.Am

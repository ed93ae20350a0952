import Derived.Test.YtopddgfmhgmfpaaGreatC4
set_option linter.unusedVariables false
set_option linter.unusedSimpArgs false
set_option linter.unusedVariables false
namespace Go.Am
open Go Go.Proofs
set_option maxRecDepth 1000000
theorem run_roots : ACall Tryz.prog 24 [.sl (ql [-2, 1, 1])] [.new 4 (ql [-2, 1])] := closed (S := [64, 68, 135, 181, 140, 203, 266, 81, 152, 210]) 100000 (by kernel_rfl)
end Go.Am

import Derived.Test.YtopddgfmhgmfpaaGreatC4
set_option linter.unusedVariables false
set_option linter.unusedSimpArgs false
set_option linter.unusedVariables false
namespace Go.Am
open Go Go.Proofs
set_option maxRecDepth 1000000
theorem run_irr : ACall Tryz.prog 22 [.sl (ql [1, 0, 1])] [.p (.val (.bool true))] := closed (S := [64, 68, 135, 181, 140, 203, 266, 81, 152, 210]) 100000 (by kernel_rfl)
end Go.Am

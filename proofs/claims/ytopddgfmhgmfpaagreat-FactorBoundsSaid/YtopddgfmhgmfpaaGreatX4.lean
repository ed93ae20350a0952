import Derived.Test.YtopddgfmhgmfpaaGreatC4
set_option linter.unusedVariables false
set_option linter.unusedSimpArgs false
set_option linter.unusedVariables false
namespace Go.Am
open Go Go.Proofs
set_option maxRecDepth 1000000
theorem run_lift : ACall Tryz.prog 29 [.sl (zl [1, 0, 1]), .sl [[.sl (ul [2, 1])], [.sl (ul [3, 1])]], nU 5, nI 2] [.new 1 (lzl [[7, 1], [-7, 1]]), .p (nI 0)] := closed (S := [64, 68, 135, 181, 140, 203, 266, 81, 152, 210]) 100000 (by kernel_rfl)
end Go.Am

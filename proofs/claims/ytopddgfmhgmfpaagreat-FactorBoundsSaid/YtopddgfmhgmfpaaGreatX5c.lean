import Derived.Test.YtopddgfmhgmfpaaGreatC4
set_option linter.unusedVariables false
set_option linter.unusedSimpArgs false
set_option linter.unusedVariables false
namespace Go.Am
open Go Go.Proofs
set_option maxRecDepth 1000000
theorem run_lifts3 : ACall Tryz.prog 102 [.agg [nU 3], .sl (zl [4, 0, 0, 0, 1]), .sl [[.sl (ul [2, 1, 1])], [.sl (ul [2, 2, 1])]], nI 5] [.new 1 (lzl [[2, -2, 1], [2, 2, 1]])] := closed (S := [64, 68, 135, 181, 140, 203, 266, 81, 152, 210]) 100000 (by kernel_rfl)
end Go.Am

import Derived.Test.YtopddgfmhgmfpaaGreatC4
import Derived.Test.YtopddgfmhgmfpaaGreatX5a
import Derived.Test.YtopddgfmhgmfpaaGreatX5b
import Derived.Test.YtopddgfmhgmfpaaGreatX5c
set_option linter.unusedVariables false
set_option linter.unusedSimpArgs false
set_option linter.unusedVariables false
namespace Go.Am
open Go Go.Proofs
set_option maxRecDepth 1000000
noncomputable def lib4 : List LE :=
  le2 12 dUL dU (fun a p => grd (decide (a = [1, 0, 0, 0, 1] ∧ p = 3)) [.new 2 [[.sl (ul [2, 1, 1]), nI 1], [.sl (ul [2, 2, 1]), nI 1]], .p (nI 0)]) (fun a p rs h => by
    obtain ⟨hg, rfl⟩ := grd_spec h
    obtain ⟨rfl, rfl⟩ := of_decide_eq_true hg
    exact run_mod3) ::
  le4 102 dRing dA dULL dN (fun r f l k => grd (decide (r = 3 ∧ f = [4, 0, 0, 0, 1] ∧ l = [[2, 1, 1], [2, 2, 1]] ∧ k = 5)) [.new 1 (lzl [[2, -2, 1], [2, 2, 1]])]) (fun r f l k rs h => by
    obtain ⟨hg, rfl⟩ := grd_spec h
    obtain ⟨rfl, rfl, rfl, rfl⟩ := of_decide_eq_true hg
    exact run_lifts3) :: lib2
theorem run_sq4 : ACall Tryz.prog 139 [.sl (ql [4, 0, 0, 0, 1])] [.new 1 [[.sl (ql [2, 2, 1])], [.sl (ql [2, -2, 1])]]] := closedL lib4 (S := []) 100000 (by kernel_rfl)
noncomputable def lib5 : List LE :=
  le1 138 dQL (fun l => grd (decide (l = [4, 0, 0, 0, 1])) [.new 2 [[.sl (ql [4, 0, 0, 0, 1]), nI 1]]]) (fun l rs h => by
    obtain ⟨hg, rfl⟩ := grd_spec h
    obtain rfl := of_decide_eq_true hg
    exact run_sf4) ::
  le1 139 dQL (fun l => grd (decide (l = [4, 0, 0, 0, 1])) [.new 1 [[.sl (ql [2, 2, 1])], [.sl (ql [2, -2, 1])]]]) (fun l rs h => by
    obtain ⟨hg, rfl⟩ := grd_spec h
    obtain rfl := of_decide_eq_true hg
    exact run_sq4) :: lib2
theorem run_f4 : ACall Tryz.prog 75 [.sl (ql [4, 0, 0, 0, 1])] [.p (.agg (ratC 1)), .new 2 [[.sl (ql [2, -2, 1]), nI 1], [.sl (ql [2, 2, 1]), nI 1]], .p (nI 0)] := closedL lib5 (S := [140, 203, 266]) 100000 (by kernel_rfl)
end Go.Am

import Derived.Test.YtopddgfmhgmfpaaGreatC4
import Derived.Test.YtopddgfmhgmfpaaGreatX3
import Derived.Test.YtopddgfmhgmfpaaGreatX4
import Derived.Test.YtopddgfmhgmfpaaGreatX5
import Derived.Test.YtopddgfmhgmfpaaGreatX6
import Derived.Test.YtopddgfmhgmfpaaGreatX7
set_option linter.unusedVariables false
set_option linter.unusedSimpArgs false
set_option linter.unusedVariables false
namespace Go.Am
open Go Go.Proofs
set_option maxRecDepth 1000000
noncomputable def lib3 : List LE :=
  le2 12 dUL dU (fun a p => grd (decide (a = [1, 0, 1] ∧ p = 5)) [.new 2 [[.sl (ul [2, 1]), nI 1], [.sl (ul [3, 1]), nI 1]], .p (nI 0)]) (fun a p rs h => by
    obtain ⟨hg, rfl⟩ := grd_spec h
    obtain ⟨rfl, rfl⟩ := of_decide_eq_true hg
    exact run_mod) ::
  le4 29 dA dULL dU dN (fun a l p k => grd (decide (a = [1, 0, 1] ∧ l = [[2, 1], [3, 1]] ∧ p = 5 ∧ k = 2)) [.new 1 (lzl [[7, 1], [-7, 1]]), .p (nI 0)]) (fun a l p k rs h => by
    obtain ⟨hg, rfl⟩ := grd_spec h
    obtain ⟨rfl, rfl, rfl, rfl⟩ := of_decide_eq_true hg
    exact run_lift) ::
  le1 75 dQL (fun l => grd (decide (l = [4, 0, 0, 0, 1])) [.p (.agg (ratC 1)), .new 2 [[.sl (ql [2, -2, 1]), nI 1], [.sl (ql [2, 2, 1]), nI 1]], .p (nI 0)]) (fun l rs h => by
    obtain ⟨hg, rfl⟩ := grd_spec h
    obtain rfl := of_decide_eq_true hg
    exact run_f4) ::
  le1 24 dQL (fun l => grd (decide (l = [-2, 1, 1])) [.new 4 (ql [-2, 1])]) (fun l rs h => by
    obtain ⟨hg, rfl⟩ := grd_spec h
    obtain rfl := of_decide_eq_true hg
    exact run_roots) ::
  le1 22 dQL (fun l => grd (decide (l = [1, 0, 1])) [.p (.val (.bool true))]) (fun l rs h => by
    obtain ⟨hg, rfl⟩ := grd_spec h
    obtain rfl := of_decide_eq_true hg
    exact run_irr) :: lib2
/-- The fixed examples. -/
theorem sanity_call : ACall Tryz.prog 9 [] [.p (.val (.bool true))] := closedL lib3 (S := []) 100000 (by kernel_rfl)
end Go.Am

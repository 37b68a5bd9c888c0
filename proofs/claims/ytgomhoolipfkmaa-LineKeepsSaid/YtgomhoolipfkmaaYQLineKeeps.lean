-- Laid by a program of this session's (xrow.py): the pure statement of a law.
import Derived.Test.YtgomhoolipfkmaaYR
import Derived.Test.YtgomhoolipfkmaaY21
namespace Go.Proofs.Ytgomhoolipfkmaa.Y
open Go.RowKit Go.Proofs.YtgomhoolipfkmaaW.PrintWords Go.Proofs.YtgomhoolipfkmaaW.PrintLast Go.Proofs.YtgomhoolipfkmaaW.PrintMore
def clusterlockslaw11_LineKeeps.PureX : Prop := ∀ (x0 : List (S28)) (x1 : S28), (x0.length ≤ maxLen ∧ ∀ y ∈ x0, w28 y) → x0.length * 56 ≤ 140737488351232 → w28 x1 → ∃ k, clusterlockslaw11_LineKeeps.f k x0 x1.f0.f0 x1.f0.f1 x1.f0.f2 x1.f1.f0 x1.f1.f1 x1.f2 x1.f3 = some true
end Go.Proofs.Ytgomhoolipfkmaa.Y

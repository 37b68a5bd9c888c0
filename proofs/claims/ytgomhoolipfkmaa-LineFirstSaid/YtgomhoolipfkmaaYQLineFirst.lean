-- Laid by a program of this session's (xrow.py): the pure statement of a law.
import Derived.Test.YtgomhoolipfkmaaYR
import Derived.Test.YtgomhoolipfkmaaY22
namespace Go.Proofs.Ytgomhoolipfkmaa.Y
open Go.RowKit Go.Proofs.YtgomhoolipfkmaaW.PrintWords Go.Proofs.YtgomhoolipfkmaaW.PrintLast Go.Proofs.YtgomhoolipfkmaaW.PrintMore
def clusterlockslaw11_LineFirst.PureX : Prop := ∀ (x0 : List Int), (x0.length ≤ maxLen ∧ ∀ y ∈ x0, (Lit.int .i64 y).wf = true) → x0.length * 8 ≤ 140737488351232 → ∃ k, clusterlockslaw11_LineFirst.f k x0 = some true
end Go.Proofs.Ytgomhoolipfkmaa.Y

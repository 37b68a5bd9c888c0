-- Laid by a program of this session's (xrow.py): the pure statement of a law.
import Derived.Test.YtjdicbffpbpenaaYR
import Derived.Test.YtjdicbffpbpenaaY10
namespace Go.Proofs.Ytjdicbffpbpenaa.Y
open Go.RowKit Go.Proofs.YtjdicbffpbpenaaW.PrintWords Go.Proofs.YtjdicbffpbpenaaW.PrintLast Go.Proofs.YtjdicbffpbpenaaW.PrintMore
def clusterlockslaw26_StableActs.PureX : Prop := ∀ (x0 : S24) (x1 : List Int) (x2 : Int), w24 x0 → (x1.length ≤ maxLen ∧ ∀ y ∈ x1, (Lit.int .u8 y).wf = true) → x1.length * 1 ≤ 140737488351232 → (Lit.int .i64 x2).wf = true → ∃ k, clusterlockslaw26_StableActs.f k x0.f0 x0.f1 x1 x2 = some true
end Go.Proofs.Ytjdicbffpbpenaa.Y

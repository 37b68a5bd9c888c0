-- Laid by a program of this session's (xrow.py): the pure statement of a law.
import Derived.Test.YtnhdppfmdhdmdaaYR
import Derived.Test.YtnhdppfmdhdmdaaY7
namespace Go.Proofs.Ytnhdppfmdhdmdaa.Y
open Go.RowKit Go.Proofs.YtnhdppfmdhdmdaaW.PrintWords Go.Proofs.YtnhdppfmdhdmdaaW.PrintLast Go.Proofs.YtnhdppfmdhdmdaaW.PrintMore
def clusterlockslaw23_ChannelFresh.PureX : Prop := ∀ (x0 : List (List Int)) (x1 : Int) (x2 : Int) (x3 : Int), (x0.length ≤ maxLen ∧ ∀ y ∈ x0, (fun l : List Int => l.length ≤ maxLen ∧ ∀ x ∈ l, (fun x : Int => (Lit.int .u8 x).wf = true) x) y) → x0.length * 24 ≤ 140737488351232 → (Lit.int .i64 x1).wf = true → (Lit.int .i64 x2).wf = true → (Lit.int .u8 x3).wf = true → ∃ k, clusterlockslaw23_ChannelFresh.f k x0 x1 x2 x3 = some true
end Go.Proofs.Ytnhdppfmdhdmdaa.Y

-- Laid by a program of this session's (xrow.py): the pure statement of a law.
import Derived.Test.YtnhdppfmdhdmdaaYR
import Derived.Test.YtnhdppfmdhdmdaaY6
namespace Go.Proofs.Ytnhdppfmdhdmdaa.Y
open Go.RowKit Go.Proofs.YtnhdppfmdhdmdaaW.PrintWords Go.Proofs.YtnhdppfmdhdmdaaW.PrintLast Go.Proofs.YtnhdppfmdhdmdaaW.PrintMore
def clusterlockslaw23_ChannelOrder.PureX : Prop := ∀ (x0 : List (List Int)), (x0.length ≤ maxLen ∧ ∀ y ∈ x0, (fun l : List Int => l.length ≤ maxLen ∧ ∀ x ∈ l, (fun x : Int => (Lit.int .u8 x).wf = true) x) y) → x0.length * 24 ≤ 140737488351232 → ∃ k, clusterlockslaw23_ChannelOrder.f k x0 = some true
end Go.Proofs.Ytnhdppfmdhdmdaa.Y

-- Laid by a program of this session's (xrow.py): the pure statement of a law.
import Derived.Test.YtmphkdjogglfjaaYR
import Derived.Test.YtmphkdjogglfjaaY8
namespace Go.Proofs.Ytmphkdjogglfjaa.Y
open Go.RowKit Go.Proofs.YtmphkdjogglfjaaW.PrintWords Go.Proofs.YtmphkdjogglfjaaW.PrintLast Go.Proofs.YtmphkdjogglfjaaW.PrintMore
def clusterlockslaw01_CodecOwn.PureXU : Prop := ∀ (x0 : List Int) (x1 : Int) (x2 : ByteArray), (x0.length ≤ maxLen ∧ ∀ y ∈ x0, (Lit.int .u8 y).wf = true) → (x0.length + (x0.map (fun _ : Int => 0)).sum) ≤ 1048576 → (Lit.int .u64 x1).wf = true → x2.size ≤ maxLen → x2.size ≤ 1048576 → ∃ k, clusterlockslaw01_CodecOwn.f k x0 x1 x2 = some true
end Go.Proofs.Ytmphkdjogglfjaa.Y

-- Laid by a program of this session's (xrow.py): the pure statement of a law.
import Derived.Test.YtmphkdjogglfjaaYR
import Derived.Test.YtmphkdjogglfjaaY7
namespace Go.Proofs.Ytmphkdjogglfjaa.Y
open Go.RowKit Go.Proofs.YtmphkdjogglfjaaW.PrintWords Go.Proofs.YtmphkdjogglfjaaW.PrintLast Go.Proofs.YtmphkdjogglfjaaW.PrintMore
def clusterlockslaw01_CodecFrames.PureXU : Prop := ∀ (x0 : List Int) (x1 : List Int), (x0.length ≤ maxLen ∧ ∀ y ∈ x0, (Lit.int .u8 y).wf = true) → (x0.length + (x0.map (fun _ : Int => 0)).sum) ≤ 1048576 → (x1.length ≤ maxLen ∧ ∀ y ∈ x1, (Lit.int .u8 y).wf = true) → (x1.length + (x1.map (fun _ : Int => 0)).sum) ≤ 1048576 → ∃ k, clusterlockslaw01_CodecFrames.f k x0 x1 = some true
end Go.Proofs.Ytmphkdjogglfjaa.Y

-- Laid by a program of this session's (xrow.py): the pure statement of a law.
import Derived.Test.YtmphkdjogglfjaaYR
import Derived.Test.YtmphkdjogglfjaaY6
namespace Go.Proofs.Ytmphkdjogglfjaa.Y
open Go.RowKit Go.Proofs.YtmphkdjogglfjaaW.PrintWords Go.Proofs.YtmphkdjogglfjaaW.PrintLast Go.Proofs.YtmphkdjogglfjaaW.PrintMore
def clusterlockslaw01_CodecTexts.PureXU : Prop := ∀ (x0 : ByteArray) (x1 : List Int) (x2 : List Int), x0.size ≤ maxLen → x0.size ≤ 1048576 → (x1.length ≤ maxLen ∧ ∀ y ∈ x1, (Lit.int .u8 y).wf = true) → (x1.length + (x1.map (fun _ : Int => 0)).sum) ≤ 1048576 → (x2.length ≤ maxLen ∧ ∀ y ∈ x2, (Lit.int .u8 y).wf = true) → (x2.length + (x2.map (fun _ : Int => 0)).sum) ≤ 1048576 → ∃ k, clusterlockslaw01_CodecTexts.f k x0 x1 x2 = some true
end Go.Proofs.Ytmphkdjogglfjaa.Y

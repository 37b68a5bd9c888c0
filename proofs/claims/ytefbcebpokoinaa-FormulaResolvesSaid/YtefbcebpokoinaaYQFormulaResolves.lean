-- Laid by a program of this session's (xrow.py): the pure statement of a law.
import Derived.Test.YtefbcebpokoinaaYR
import Derived.Test.YtefbcebpokoinaaY28
namespace Go.Proofs.Ytefbcebpokoinaa.Y
open Go.RowKit Go.Proofs.YtefbcebpokoinaaW.PrintWords Go.Proofs.YtefbcebpokoinaaW.PrintLast Go.Proofs.YtefbcebpokoinaaW.PrintMore
def clusterlockslaw08_FormulaResolves.PureX : Prop := ∀ (x0 : List (S59)) (x1 : S28) (n1 : Nat), (x0.length ≤ maxLen ∧ ∀ y ∈ x0, w59 y) → x0.length * 40 ≤ 140737488351232 → (w28 n1) x1 → ∃ k, clusterlockslaw08_FormulaResolves.f k x0 x1.f0 x1.f1.f0 x1.f1.f1.f0 x1.f1.f1.f1 x1.f2 = some true
end Go.Proofs.Ytefbcebpokoinaa.Y

-- Laid by a program of this session's (xrow.py): the pure statement of a law.
import Derived.Test.YtefbcebpokoinaaYR
import Derived.Test.YtefbcebpokoinaaY21
namespace Go.Proofs.Ytefbcebpokoinaa.Y
open Go.RowKit Go.Proofs.YtefbcebpokoinaaW.PrintWords Go.Proofs.YtefbcebpokoinaaW.PrintLast Go.Proofs.YtefbcebpokoinaaW.PrintMore
def clusterlockslaw08_FormulaMinimal.PureX : Prop := ∀ (x0 : S28) (x1 : List Bool) (n0 : Nat), (w28 n0) x0 → (x1.length ≤ maxLen ∧ ∀ y ∈ x1, True) → x1.length * 1 ≤ 140737488351232 → ∃ k, clusterlockslaw08_FormulaMinimal.f k x0.f0 x0.f1.f0 x0.f1.f1.f0 x0.f1.f1.f1 x0.f2 x1 = some true
end Go.Proofs.Ytefbcebpokoinaa.Y

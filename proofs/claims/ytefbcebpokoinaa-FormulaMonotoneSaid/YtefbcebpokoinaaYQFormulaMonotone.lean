-- Laid by a program of this session's (xrow.py): the pure statement of a law.
import Derived.Test.YtefbcebpokoinaaYR
import Derived.Test.YtefbcebpokoinaaY16
namespace Go.Proofs.Ytefbcebpokoinaa.Y
open Go.RowKit Go.Proofs.YtefbcebpokoinaaW.PrintWords Go.Proofs.YtefbcebpokoinaaW.PrintLast Go.Proofs.YtefbcebpokoinaaW.PrintMore
def clusterlockslaw08_FormulaMonotone.PureX : Prop := ∀ (x0 : List Int) (x1 : List Bool) (x2 : List Bool), (x0.length ≤ maxLen ∧ ∀ y ∈ x0, (Lit.int .i64 y).wf = true) → x0.length * 8 ≤ 140737488351232 → (x1.length ≤ maxLen ∧ ∀ y ∈ x1, True) → x1.length * 1 ≤ 140737488351232 → (x2.length ≤ maxLen ∧ ∀ y ∈ x2, True) → x2.length * 1 ≤ 140737488351232 → ∃ k, clusterlockslaw08_FormulaMonotone.f k x0 x1 x2 = some true
end Go.Proofs.Ytefbcebpokoinaa.Y

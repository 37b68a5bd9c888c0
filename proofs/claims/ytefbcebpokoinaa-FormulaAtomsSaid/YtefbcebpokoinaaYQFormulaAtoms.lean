-- Laid by a program of this session's (xrow.py): the pure statement of a law.
import Derived.Test.YtefbcebpokoinaaYR
import Derived.Test.YtefbcebpokoinaaY11
namespace Go.Proofs.Ytefbcebpokoinaa.Y
open Go.RowKit Go.Proofs.YtefbcebpokoinaaW.PrintWords Go.Proofs.YtefbcebpokoinaaW.PrintLast Go.Proofs.YtefbcebpokoinaaW.PrintMore
def clusterlockslaw08_FormulaAtoms.PureX : Prop := ∀ (x0 : S28) (n0 : Nat), (w28 n0) x0 → ∃ k, clusterlockslaw08_FormulaAtoms.f k x0.f0 x0.f1.f0 x0.f1.f1.f0 x0.f1.f1.f1 x0.f2 = some true
end Go.Proofs.Ytefbcebpokoinaa.Y

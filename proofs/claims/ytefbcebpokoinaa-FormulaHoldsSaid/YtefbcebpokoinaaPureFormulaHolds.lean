/- For which sets an expression holds, and for which it is hopeless: the program answers as the reference does. Conditions: those of the statement. -/
import Derived.Test.YtefbcebpokoinaaPw
import Derived.Test.YtefbcebpokoinaaPh
import Derived.Test.YtefbcebpokoinaaYQFormulaHolds
namespace Go.Proofs.Ytefbcebpokoinaa.Pure
open Go.RowKit Go.Proofs.Ytefbcebpokoinaa.Y Go.Proofs.Ytefbcebpokoinaa.Pa Go.Proofs.Ytefbcebpokoinaa.Ps Go.Proofs.Ytefbcebpokoinaa.Pr Go.Proofs.Ytefbcebpokoinaa.Ph Go.Proofs.YtefbcebpokoinaaW.PrintWords Go.Proofs.YtefbcebpokoinaaW.PrintLast Go.Proofs.YtefbcebpokoinaaW.PrintMore
theorem FormulaHolds : clusterlockslaw08_FormulaHolds.PureX := by
  intro e s n0 _ _ _
  refine Al.ex (Al.bindE (fun k => rfl) Pw.awake_al (Al.congr (Al.bind (holds1 e s) (Al.bind (holds2 e s) (Al.congr (Al.bind (hopeless1 e s) (Al.bind (hopeless2 e s) (Al.val fun k => ?_))) fun k => if_pos (beq_self_eq_true _)))) fun k => if_pos rfl))
  rw [beq_self_eq_true]
end Go.Proofs.Ytefbcebpokoinaa.Pure

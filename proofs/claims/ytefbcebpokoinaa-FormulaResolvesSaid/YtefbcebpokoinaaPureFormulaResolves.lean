/- Which error the first atom gives that cannot be claimed: the program answers as the reference does. Conditions: those of the statement. -/
import Derived.Test.YtefbcebpokoinaaPw
import Derived.Test.YtefbcebpokoinaaPq
import Derived.Test.YtefbcebpokoinaaYQFormulaResolves
namespace Go.Proofs.Ytefbcebpokoinaa.Pure
open Go.RowKit Go.Proofs.Ytefbcebpokoinaa.Y Go.Proofs.Ytefbcebpokoinaa.Pa Go.Proofs.Ytefbcebpokoinaa.Pq Go.Proofs.YtefbcebpokoinaaW.PrintWords Go.Proofs.YtefbcebpokoinaaW.PrintLast Go.Proofs.YtefbcebpokoinaaW.PrintMore
theorem FormulaResolves : clusterlockslaw08_FormulaResolves.PureX := by
  intro l e n0 _ _ _
  refine Al.ex (Al.bindE (fun k => rfl) Pw.awake_al (Al.congr (Al.bind (resolve1 l e) (Al.bind (resolve2 l e) (Al.val fun k => ?_))) fun k => if_pos rfl))
  rw [beq_self_eq_true]
end Go.Proofs.Ytefbcebpokoinaa.Pure

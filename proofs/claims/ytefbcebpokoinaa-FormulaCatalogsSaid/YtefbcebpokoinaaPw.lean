import Derived.Test.YtefbcebpokoinaaPa
import Derived.Test.YtefbcebpokoinaaY10
namespace Go.Proofs.Ytefbcebpokoinaa.Pw
open Go.RowKit Go.Proofs.Ytefbcebpokoinaa.Y Go.Proofs.Ytefbcebpokoinaa.Pa Go.Proofs.YtefbcebpokoinaaW.PrintWords Go.Proofs.YtefbcebpokoinaaW.PrintLast Go.Proofs.YtefbcebpokoinaaW.PrintMore
theorem awake_eval : clusterlockslaw08_awake.f 40 = some true := by decide +kernel
theorem awake_al : Al (fun k => clusterlockslaw08_awake.f k) true := Al.of (fun k => clusterlockslaw08_awake.mono k) awake_eval
end Go.Proofs.Ytefbcebpokoinaa.Pw

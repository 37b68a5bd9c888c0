-- Out of the words that the kit's print.sh laid for this seat: cut down to what this seat's texts use (trim.py).
import Derived.Test.YtefbcebpokoinaaWInv
import Derived.Test.YtefbcebpokoinaaWFootNe
namespace Go.Proofs.YtefbcebpokoinaaW.PrintWords
open Go.RowKit
end Go.Proofs.YtefbcebpokoinaaW.PrintWords
namespace Go.Proofs.YtefbcebpokoinaaW.PrintLast
section
variable {ops : Array Oper} {a : Act} {o og : Oper} {g : Nat} {t : Tmp} {u : Bool}
end
end Go.Proofs.YtefbcebpokoinaaW.PrintLast

-- Out of the words that the kit's print.sh laid for this seat: cut down to what this seat's texts use (trim.py).
import Derived.Test.YtefbcebpokoinaaWTab
namespace Go.Proofs.YtefbcebpokoinaaW.PrintLast
section
variable {P : Program} {ops : Array Oper} {Q : Exit → Act → World → Prop} {md : Region.Mode} {S : World → Prop} {ds : List Nat} {T : Bool × List (List Nat × List Nat)}
end
end Go.Proofs.YtefbcebpokoinaaW.PrintLast

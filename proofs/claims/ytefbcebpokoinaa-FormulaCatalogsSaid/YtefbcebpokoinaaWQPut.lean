-- Out of the words that the kit's print.sh laid for this seat: cut down to what this seat's texts use (trim.py).
import Derived.Test.YtefbcebpokoinaaWWords
import Derived.Test.YtefbcebpokoinaaWLast
namespace Go.Proofs.YtefbcebpokoinaaW.PrintWords
open Go.RowKit
namespace Kd
section
variable {α : Type} {d : Kd α} {e base g o n cap : Nat} {ok okp : Nat → Prop} {w W : World} {v : Value} {xs : List α}
end
section
variable {α : Type} {enc : α → Value} {h1 : ∀ x, (enc x).oneCell' = true} {e base g o n cap : Nat} {ok : Nat → Prop} {W : World} {xs : List α}
end
end Kd
end Go.Proofs.YtefbcebpokoinaaW.PrintWords

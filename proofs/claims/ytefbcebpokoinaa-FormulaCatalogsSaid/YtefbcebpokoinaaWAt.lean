-- Out of the words that the kit's print.sh laid for this seat: cut down to what this seat's texts use (trim.py).
import Derived.Test.YtefbcebpokoinaaWFootNe
namespace Go.Proofs.YtefbcebpokoinaaW.PrintWords
open Go.RowKit
section
variable {w w' u : World} {m B g : Nat} {o : Obj} {row : Option Nat} {S : Nat → Prop} {a : Addr} {v : Value}
end
namespace Kd
section
variable {α : Type} {d : Kd α} {e base n m : Nat} {ok : Nat → Prop} {w w' : World} {v : Value} {A : Option Addr} {xs : List α}
end
end Kd
end Go.Proofs.YtefbcebpokoinaaW.PrintWords

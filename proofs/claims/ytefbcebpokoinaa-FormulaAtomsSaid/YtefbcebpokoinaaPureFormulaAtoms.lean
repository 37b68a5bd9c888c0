/- Every valid expression's atoms, as the program tells them, are those that the reference tells; an invalid one has none. Conditions: those of the statement. -/
import Derived.Test.YtefbcebpokoinaaPw
import Derived.Test.YtefbcebpokoinaaYQFormulaAtoms
namespace Go.Proofs.Ytefbcebpokoinaa.Pure
open Go.RowKit Go.Proofs.Ytefbcebpokoinaa.Y Go.Proofs.Ytefbcebpokoinaa.Pa Go.Proofs.Ytefbcebpokoinaa.Ps Go.Proofs.Ytefbcebpokoinaa.Pr Go.Proofs.YtefbcebpokoinaaW.PrintWords Go.Proofs.YtefbcebpokoinaaW.PrintLast Go.Proofs.YtefbcebpokoinaaW.PrintMore
set_option linter.unusedVariables false
theorem same_loop (x : List S25) (hx : x.length ≤ 8) : ∀ (n i : Nat), i + n = x.length → Al (fun k => clusterlockslaw08_FormulaAtoms.l0 k x x (i : Int)) true
  | 0, i, h => Al.succV fun k => by
    simp only [clusterlockslaw08_FormulaAtoms.l0]
    rw [if_neg (by omega)]
  | n + 1, i, h => by
    refine Al.succ (same_loop x hx n (i + 1) (by omega)) fun k => ?_
    simp only [clusterlockslaw08_FormulaAtoms.l0]
    rw [if_pos (by omega), if_pos (by omega), if_pos (by omega), if_neg (by simp), w64_id (by omega) (by omega)]
    rfl
theorem ats_len (e : S28) : (ats e).length ≤ 8 := by
  by_cases h : valid e
  · exact (ats_valid h).2.1
  · rw [ats_invalid h]
    simp
theorem FormulaAtoms : clusterlockslaw08_FormulaAtoms.PureX := by
  intro e n0 _
  refine Al.ex (Al.bindE (fun k => rfl) (atoms1 e) (Al.bind (atoms3 e) (Al.bind Pw.awake_al (Al.congr ?_ fun k => if_pos rfl))))
  refine Al.succ (same_loop (ats e) (ats_len e) _ 0 (Nat.zero_add _)) fun k => ?_
  simp only [clusterlockslaw08_FormulaAtoms.j0]
  rw [if_neg (by simp)]
  rfl
end Go.Proofs.Ytefbcebpokoinaa.Pure

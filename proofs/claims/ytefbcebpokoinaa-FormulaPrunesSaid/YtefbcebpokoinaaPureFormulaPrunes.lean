/- Which set remains of a set: the program answers as the reference does. Conditions: those of the statement. -/
import Derived.Test.YtefbcebpokoinaaPw
import Derived.Test.YtefbcebpokoinaaPp
import Derived.Test.YtefbcebpokoinaaYQFormulaPrunes
namespace Go.Proofs.Ytefbcebpokoinaa.Pure
open Go.RowKit Go.Proofs.Ytefbcebpokoinaa.Y Go.Proofs.Ytefbcebpokoinaa.Pa Go.Proofs.Ytefbcebpokoinaa.Ps Go.Proofs.Ytefbcebpokoinaa.Pr Go.Proofs.Ytefbcebpokoinaa.Ph Go.Proofs.Ytefbcebpokoinaa.Pp Go.Proofs.YtefbcebpokoinaaW.PrintWords Go.Proofs.YtefbcebpokoinaaW.PrintLast Go.Proofs.YtefbcebpokoinaaW.PrintMore
theorem same_bools (x : List Bool) (hx : x.length ≤ 8) : ∀ (n i : Nat), i + n = x.length → Al (fun k => clusterlocksref08_SameBools.l0 k x x (i : Int)) true
  | 0, i, h => Al.succV fun k => by
    simp only [clusterlocksref08_SameBools.l0]
    rw [if_neg (by omega)]
  | n + 1, i, h => by
    refine Al.succ (same_bools x hx n (i + 1) (by omega)) fun k => ?_
    simp only [clusterlocksref08_SameBools.l0]
    rw [if_pos (by omega), if_pos (by omega), if_pos (by omega), if_neg (by simp), w64_id (by omega) (by omega)]
    rfl
theorem pn_len (e : S28) (s : List Bool) : (pn e s).length ≤ 8 := by
  have := ats_len e
  unfold pn
  split
  · split
    · rw [pr_len, fst_len]
      exact this
    · rw [List.length_replicate]
      exact this
  · exact Nat.zero_le _
theorem FormulaPrunes : clusterlockslaw08_FormulaPrunes.PureX := by
  intro e s n0 _ _ _
  refine Al.ex (Al.bindE (fun k => rfl) Pw.awake_al (Al.congr (Al.bind (prune1 e s) (Al.bind (prune2 e s) (Al.bind (g := fun k => clusterlocksref08_SameBools.f k (pn e s) (pn e s)) (r := true) (f := fun k t => some t) ?_ (Al.val fun k => rfl)))) fun k => if_pos rfl))
  refine Al.congr (same_bools (pn e s) (pn_len e s) _ 0 (Nat.zero_add _)) fun k => ?_
  unfold clusterlocksref08_SameBools.f
  rw [if_pos rfl]
  rfl
end Go.Proofs.Ytefbcebpokoinaa.Pure

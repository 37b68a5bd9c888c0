import Derived.Test.YtgomhoolipfkmaaPl
import Derived.Test.YtgomhoolipfkmaaY16
namespace Go.Proofs.Ytgomhoolipfkmaa.Pl
open Go.RowKit Go.Proofs.Ytgomhoolipfkmaa.Y Go.Proofs.Ytgomhoolipfkmaa.Pa Go.Proofs.YtgomhoolipfkmaaW.PrintWords Go.Proofs.YtgomhoolipfkmaaW.PrintLast Go.Proofs.YtgomhoolipfkmaaW.PrintMore
set_option linter.unusedVariables false
set_option linter.unusedSimpArgs false
theorem same_l0 (a : List S28) (hl : a.length ≤ 140737488355328) (d : Nat) : ∀ i : Int, 0 ≤ i → i + d = a.length → Al (fun k => clusterlocksref11_SameWaits.l0 k a a i) true := by
  induction d with
  | zero =>
    intro i h0 h1
    refine Al.succV fun k => ?_
    simp only [clusterlocksref11_SameWaits.l0]
    rw [if_neg (by omega)]
  | succ d ih =>
    intro i h0 h1
    refine Al.succ (ih (i + 1) (by omega) (by omega)) fun k => ?_
    simp only [clusterlocksref11_SameWaits.l0]
    rw [if_pos (by omega), if_pos h0, if_pos (by omega), if_neg (by simp), w64_id (by omega) (by omega)]
theorem same (a : List S28) (hl : a.length ≤ 140737488355328) : Al (fun k => clusterlocksref11_SameWaits.f k a a) true := by
  refine (same_l0 a hl a.length 0 (by omega) (by omega)).congr fun k => ?_
  unfold clusterlocksref11_SameWaits.f
  rw [if_pos rfl]
end Go.Proofs.Ytgomhoolipfkmaa.Pl

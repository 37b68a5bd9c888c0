/- For every claim and every line ValidWait and Valid answer as the reference does. -/
import Derived.Test.YtgomhoolipfkmaaPl
import Derived.Test.YtgomhoolipfkmaaYQLineValid
namespace Go.Proofs.Ytgomhoolipfkmaa.Pure
open Go.RowKit Go.Proofs.Ytgomhoolipfkmaa.Y Go.Proofs.Ytgomhoolipfkmaa.Pa Go.Proofs.Ytgomhoolipfkmaa.Pl
theorem LineValid : clusterlockslaw11_LineValid.PureX := by
  intro l x hl0 hb hx
  have hl : l.length ≤ 140737488355328 := by omega
  clear hb
  refine Al.ex (r := true) ?_
  by_cases h : (l.length : Int) > 100
  · refine Al.bindE (fun k => by unfold clusterlockslaw11_LineValid.f; rw [if_pos h]) awake_al (Al.val fun k => rfl)
  · refine Al.bindE (fun k => by unfold clusterlockslaw11_LineValid.f; rw [if_neg h]) awake_al ?_
    refine Al.bindE (g := fun k => line_Valid.f k l) (f := fun k t => (clusterlocksref11_Valid.f k l).bind fun t2 => some (t == t2)) (fun k => ?_) (lvalid l hl) ?_
    · rw [vw1, vw2]
      simp
    · refine Al.bindE (fun k => rfl) (rvalid l hl) (Al.val fun k => by simp)
end Go.Proofs.Ytgomhoolipfkmaa.Pure

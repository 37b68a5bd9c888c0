/- Insert puts a claim where the reference does, overtakes whom it overtakes, and refuses what it refuses. -/
import Derived.Test.YtgomhoolipfkmaaPr
import Derived.Test.YtgomhoolipfkmaaPs
import Derived.Test.YtgomhoolipfkmaaYQLineInserts
namespace Go.Proofs.Ytgomhoolipfkmaa.Pure
open Go.RowKit Go.Proofs.Ytgomhoolipfkmaa.Y Go.Proofs.Ytgomhoolipfkmaa.Pa Go.Proofs.Ytgomhoolipfkmaa.Pl
theorem LineInserts : clusterlockslaw11_LineInserts.PureX := by
  intro l w hl0 hb hw
  have hl : l.length ≤ 140737488355328 := by omega
  clear hb
  refine Al.ex (r := true) ?_
  by_cases h : (l.length : Int) > 100
  · refine Al.bindE (fun k => by unfold clusterlockslaw11_LineInserts.f; rw [if_pos h]) awake_al (Al.val fun k => rfl)
  · refine Al.bindE (fun k => by unfold clusterlockslaw11_LineInserts.f; rw [if_neg h]) (lins l (by omega) w) ?_
    refine Al.bindE (fun k => rfl) (rins l (by omega) w) ?_
    refine Al.bindE (fun k => rfl) awake_al ?_
    have hlen : (ins l w).1.length ≤ 1000 := by
      unfold ins
      have := put_len l w
      split <;> (try split) <;> (try split) <;> (try split) <;> simp <;> omega
    refine Al.bindE (fun k => by rw [if_pos rfl, if_pos rfl, if_pos rfl]) (same _ (by omega)) (Al.val fun k => rfl)
end Go.Proofs.Ytgomhoolipfkmaa.Pure

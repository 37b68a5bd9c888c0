/- Find, Ahead and Remove answer as the reference does. -/
import Derived.Test.YtgomhoolipfkmaaPm
import Derived.Test.YtgomhoolipfkmaaYQLineLooks
namespace Go.Proofs.Ytgomhoolipfkmaa.Pure
open Go.RowKit Go.Proofs.Ytgomhoolipfkmaa.Y Go.Proofs.Ytgomhoolipfkmaa.Pa Go.Proofs.Ytgomhoolipfkmaa.Pl
theorem LineLooks : clusterlockslaw11_LineLooks.PureX := by
  intro l p hl0 hb hp
  have hl : l.length ≤ 140737488355328 := by omega
  clear hb
  refine Al.ex (r := true) ?_
  by_cases h : (l.length : Int) > 100
  · refine Al.bindE (fun k => by unfold clusterlockslaw11_LineLooks.f; rw [if_pos h]) awake_al (Al.val fun k => rfl)
  · have hr := rest_len p.f0 p.f1 p.f2 l
    refine Al.bindE (fun k => by unfold clusterlockslaw11_LineLooks.f; rw [if_neg h, lremove l (by omega), Option.bind_some]) (rremove l (by omega) p.f0 p.f1 p.f2) ?_
    refine Al.bindE (fun k => rfl) awake_al ?_
    refine Al.bindE (g := fun k => clusterlocksref11_Find.f k l p.f0 p.f1 p.f2) (fun k => by simp only [if_true, line_Find.f, Option.bind_some]; rfl) (rfind l hl p.f0 p.f1 p.f2) ?_
    refine Al.bindE (fun k => by rw [if_pos rfl]) (lahead l (by omega) p.f0 p.f1 p.f2) ?_
    refine Al.bindE (fun k => rfl) (rahead l (by omega) p.f0 p.f1 p.f2) ?_
    refine Al.bindE (fun k => rfl) (sameP _ (by simp [procs]; omega)) ?_
    refine Al.bindE (fun k => by rw [if_pos rfl, if_pos (by simp)]) (same _ (by omega)) (Al.val fun k => rfl)
end Go.Proofs.Ytgomhoolipfkmaa.Pure

import Derived.Test.YtjdicbffpbpenaaPt
import Derived.Test.YtjdicbffpbpenaaYQStableActs
namespace Go.Proofs.Ytjdicbffpbpenaa.Pure
open Go.RowKit Go.Proofs.Ytjdicbffpbpenaa.Y Go.Proofs.YtjdicbffpbpenaaW.PrintWords Go.Proofs.YtjdicbffpbpenaaW.PrintLast Go.Proofs.Ytjdicbffpbpenaa.Pl
set_option linter.unusedVariables false
theorem acts_awake (x1 : List Int) (x2 : Int) (a b : List Int) : Al (fun k => clusterlockslaw26_StableActs.j0 k x1 x2 true a b) true :=
  Al.succB (g := fun k => clusterlockslaw26_awake.f k) (fun k => by rw [clusterlockslaw26_StableActs.j0, if_pos rfl]) awake_al (Al.val fun k => rfl)
theorem acts_main {a b r : List Int} (ha : By a) (hb : By b) (hr : By r) (na : a.length ≤ 5000) (nb : b.length ≤ 5000) (n : Int) : Al (fun k => clusterlockslaw26_StableActs.j0 k r n false a b) true := by
  refine Al.succB (g := fun k => stable_Read.f k a b) (fun k => by rw [clusterlockslaw26_StableActs.j0, if_neg (by decide)]) (read_al ha hb (by omega) (by omega)) ?_
  refine Al.bindE (fun k => rfl) (rread_al ha hb (by omega) (by omega)) ?_
  refine Al.bindE (fun k => rfl) (write_al ha hb hr (by omega) (by omega)) ?_
  refine Al.bindE (fun k => rfl) (rwrite_al ha hb hr (by omega) (by omega)) ?_
  refine Al.bindE (fun k => rfl) (torn_al ha hb hr (by omega) (by omega) n) ?_
  refine Al.bindE (fun k => rfl) (rtorn_al ha hb hr (by omega) (by omega) n) ?_
  refine Al.bindE (fun k => rfl) awake_al (Al.val fun k => ?_)
  rw [if_pos rfl, if_pos rfl, if_pos rfl, if_pos rfl, if_pos rfl, if_pos rfl, same_ok rfl rfl, Option.bind_some, if_pos rfl, same_ok rfl rfl]
  rfl
theorem StableActs : clusterlockslaw26_StableActs.PureX := by
  intro x0 x1 x2 w0 w1 s1 w2
  refine Al.ex (r := true) ?_
  by_cases h1 : (x0.f0.length : Int) > 5000
  · exact Al.congr (acts_awake x1 x2 x0.f0 x0.f1) (fun k => by unfold clusterlockslaw26_StableActs.f; rw [if_pos h1])
  by_cases h2 : (x0.f1.length : Int) > 5000
  · exact Al.congr (acts_awake x1 x2 x0.f0 x0.f1) (fun k => by unfold clusterlockslaw26_StableActs.f; rw [if_neg h1, if_pos h2])
  by_cases h3 : (x1.length : Int) > 5000
  · exact Al.congr (acts_awake x1 x2 x0.f0 x0.f1) (fun k => by unfold clusterlockslaw26_StableActs.f; rw [if_neg h1, if_neg h2, decide_eq_true h3])
  have b0 : By x0.f0 := by_of_wf w0.1.2
  have b1 : By x0.f1 := by_of_wf w0.2.2
  have b2 : By x1 := by_of_wf w1.2
  exact Al.congr (acts_main b0 b1 b2 (by omega) (by omega) x2) (fun k => by unfold clusterlockslaw26_StableActs.f; rw [if_neg h1, if_neg h2, decide_eq_false h3])
end Go.Proofs.Ytjdicbffpbpenaa.Pure

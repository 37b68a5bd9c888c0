/- Claims of one priority form a queue: the whole domain (at most nine numbers of claims, eight priorities) is computed. -/
import Derived.Test.YtgomhoolipfkmaaPl
import Derived.Test.YtgomhoolipfkmaaY12
namespace Go.Proofs.Ytgomhoolipfkmaa.Pure
open Go.RowKit Go.Proofs.Ytgomhoolipfkmaa.Y Go.Proofs.Ytgomhoolipfkmaa.Pa Go.Proofs.Ytgomhoolipfkmaa.Pl
theorem eq_all : ∀ (n : Fin 9) (p : Fin 8), clusterlockslaw11_LineEqual.f 40 (n.val : Int) (p.val : Int) = some true := by decide +kernel
theorem eq_awake (a b : Int) : Al (fun k => clusterlockslaw11_LineEqual.j0 k a b true) true := by
  refine Al.succB (fun k => ?_) awake_al (Al.val fun k => rfl)
  simp only [clusterlockslaw11_LineEqual.j0]
  rfl
theorem LineEqual : clusterlockslaw11_LineEqual.Pure := by
  intro n p _ _
  refine Al.ex (r := true) ?_
  by_cases h1 : n < 0
  · exact (eq_awake n p).congr fun k => by unfold clusterlockslaw11_LineEqual.f; rw [if_pos h1]
  by_cases h2 : n > 8
  · exact (eq_awake n p).congr fun k => by unfold clusterlockslaw11_LineEqual.f; rw [if_neg h1, if_pos h2]
  by_cases h3 : p < 0
  · exact (eq_awake n p).congr fun k => by unfold clusterlockslaw11_LineEqual.f; rw [if_neg h1, if_neg h2, if_pos h3]
  by_cases h4 : p > 7
  · exact (eq_awake n p).congr fun k => by unfold clusterlockslaw11_LineEqual.f; rw [if_neg h1, if_neg h2, if_neg h3, decide_eq_true h4]
  have h := eq_all ⟨n.toNat, by omega⟩ ⟨p.toNat, by omega⟩
  simp only at h
  rw [Int.toNat_of_nonneg (by omega), Int.toNat_of_nonneg (by omega)] at h
  exact Al.of (fun k => clusterlockslaw11_LineEqual.mono _ _ k) h
end Go.Proofs.Ytgomhoolipfkmaa.Pure

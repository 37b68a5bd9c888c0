/- Groups of different atoms that ask for all are conjunctive, those that ask for one disjunctive, the others neither: the whole domain (2 to 8 atoms) is computed. -/
import Derived.Test.YtefbcebpokoinaaPw
import Derived.Test.YtefbcebpokoinaaY22
namespace Go.Proofs.Ytefbcebpokoinaa.Pure
open Go.RowKit Go.Proofs.Ytefbcebpokoinaa.Y Go.Proofs.Ytefbcebpokoinaa.Pa
theorem pure_all : ∀ (n : Fin 9) (p : Fin 9), clusterlockslaw08_FormulaPure.f 60 (n.val : Int) (p.val : Int) = some true := by decide +kernel
theorem pu_awake (a b : Int) : Al (fun k => clusterlockslaw08_FormulaPure.j0 k a b true) true := by
  refine Al.succB (fun k => ?_) Pw.awake_al (Al.val fun k => rfl)
  simp only [clusterlockslaw08_FormulaPure.j0]
  rfl
theorem FormulaPure : clusterlockslaw08_FormulaPure.Pure := by
  intro n p _ _
  refine Al.ex (r := true) ?_
  by_cases h1 : n < 2
  · exact (pu_awake n p).congr fun k => by unfold clusterlockslaw08_FormulaPure.f; rw [if_pos h1]
  by_cases h2 : n > 8
  · exact (pu_awake n p).congr fun k => by unfold clusterlockslaw08_FormulaPure.f; rw [if_neg h1, if_pos h2]
  by_cases h3 : p < 1
  · exact (pu_awake n p).congr fun k => by unfold clusterlockslaw08_FormulaPure.f; rw [if_neg h1, if_neg h2, if_pos h3]
  by_cases h4 : p > n
  · exact (pu_awake n p).congr fun k => by unfold clusterlockslaw08_FormulaPure.f; rw [if_neg h1, if_neg h2, if_neg h3, decide_eq_true h4]
  have h := pure_all ⟨n.toNat, by omega⟩ ⟨p.toNat, by omega⟩
  simp only at h
  rw [Int.toNat_of_nonneg (by omega), Int.toNat_of_nonneg (by omega)] at h
  exact Al.of (fun k => clusterlockslaw08_FormulaPure.mono _ _ k) h
end Go.Proofs.Ytefbcebpokoinaa.Pure

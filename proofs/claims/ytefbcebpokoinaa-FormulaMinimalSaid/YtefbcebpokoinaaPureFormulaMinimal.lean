/- A pruned set is within the given one; the expression holds for it, and for none that has one atom less. Conditions: those of the statement. -/
import Derived.Test.YtefbcebpokoinaaPw
import Derived.Test.YtefbcebpokoinaaPp
import Derived.Test.YtefbcebpokoinaaYQFormulaMinimal
namespace Go.Proofs.Ytefbcebpokoinaa.Pure
open Go.RowKit Go.Proofs.Ytefbcebpokoinaa.Y Go.Proofs.Ytefbcebpokoinaa.Pa Go.Proofs.Ytefbcebpokoinaa.Ps Go.Proofs.Ytefbcebpokoinaa.Pr Go.Proofs.Ytefbcebpokoinaa.Ph Go.Proofs.Ytefbcebpokoinaa.Pp Go.Proofs.YtefbcebpokoinaaW.PrintWords Go.Proofs.YtefbcebpokoinaaW.PrintLast Go.Proofs.YtefbcebpokoinaaW.PrintMore
set_option linter.unusedVariables false
theorem min_loop (e : S28) (s p : List Bool) (hp : p.length ≤ 8) (h1 : ∀ i, i < p.length → p.getD i false = true → s.getD i false = true) (h2 : ∀ i, i < p.length → p.getD i false = true → hd e (p.set i false) = false) : ∀ (n i : Nat), i + n = p.length → Al (fun k => clusterlockslaw08_FormulaMinimal.l0 k s p (i : Int) e.f0 e.f1.f0 e.f1.f1.f0 e.f1.f1.f1 e.f2) true
  | 0, i, h => Al.succV fun k => by
    simp only [clusterlockslaw08_FormulaMinimal.l0]
    rw [if_neg (by omega)]
  | n + 1, i, h => by
    have ih := min_loop e s p hp h1 h2 n (i + 1) (by omega)
    by_cases hb : p.getD i false = true
    · have hs := h1 i (by omega) hb
      have hl : i < s.length := by
        by_cases hl : i < s.length
        · exact hl
        · rw [past (by omega)] at hs
          cases hs
      refine Al.succB (g := fun k => formula_Holds.f k e.f0 e.f1.f0 e.f1.f1.f0 e.f1.f1.f1 e.f2 (p.set i false)) (f := fun k t => if t = true then none else clusterlockslaw08_FormulaMinimal.l0 k s p (i + 1 : Nat) e.f0 e.f1.f0 e.f1.f1.f0 e.f1.f1.f1 e.f2) (fun k => ?_) (holds1 e (p.set i false)) (Al.congr ih fun k => by rw [h2 i (by omega) hb]; rfl)
      simp only [clusterlockslaw08_FormulaMinimal.l0, Option.bind_some, List.nil_append, List.length_nil, Nat.zero_add]
      rw [if_pos (by omega), if_pos (by omega), rdb, if_pos hb, if_pos (by omega), if_pos (by omega), if_neg (by omega), if_pos (by omega), rdb, if_pos hs, Int.toNat_natCast, w64_id (by omega) (by omega)]
      rfl
    · refine Al.succ ih fun k => ?_
      simp only [clusterlockslaw08_FormulaMinimal.l0]
      rw [if_pos (by omega), if_pos (by omega), rdb, if_neg hb, w64_id (by omega) (by omega)]
      rfl
theorem FormulaMinimal : clusterlockslaw08_FormulaMinimal.PureX := by
  intro e s n0 _ _ _
  refine Al.ex (Al.bindE (fun k => rfl) (holds1 e s) ?_)
  by_cases h : hd e s = true
  · refine Al.congr (g := fun k => (formula_Prune.f k e.f0 e.f1.f0 e.f1.f1.f0 e.f1.f1.f1 e.f2 s).bind fun t483 => ((clusterlockslaw08_awake.f k).bind fun t486 => (if t486 = true then ((formula_Holds.f k e.f0 e.f1.f0 e.f1.f1.f0 e.f1.f1.f1 e.f2 t483).bind fun t487 => (clusterlockslaw08_FormulaMinimal.j0 k s t483 (!t487) e.f0 e.f1.f0 e.f1.f1.f0 e.f1.f1.f1 e.f2)) else (clusterlockslaw08_FormulaMinimal.j0 k s t483 true e.f0 e.f1.f0 e.f1.f1.f0 e.f1.f1.f1 e.f2)))) (Al.bind (prune1 e s) (Al.bind Pw.awake_al (Al.congr (Al.bind (holds1 e (pn e s)) ?_) fun k => if_pos rfl))) (fun k => if_pos h)
    have hh := h
    unfold hd at hh
    rw [Bool.and_eq_true] at hh
    have hv1 : valid e := of_decide_eq_true hh.1
    have e1 : pn e s = pr e (ats e) (ats e).length (fst (ats e).length s) := by
      unfold pn
      rw [if_pos hv1, if_pos hh.2]
    have h0 : hv e (ats e) (fst (ats e).length s) = true := by
      rw [hv_same (ats e) _ _ (le_fst _ s).1 (le_fst _ s).2 e]
      exact hh.2
    obtain ⟨p1, p2, p3⟩ := pr_spec e (ats e) (ats e).length (fst (ats e).length s) (fst_len _ _) (Nat.le_refl _) h0
    rw [← e1] at p1 p2 p3
    have hl : (pn e s).length = (ats e).length := by rw [e1, pr_len, fst_len]
    have hd1 : hd e (pn e s) = true := by
      unfold hd
      rw [hh.1, p1]
      rfl
    refine Al.congr (g := fun k => clusterlockslaw08_FormulaMinimal.j0 k s (pn e s) false e.f0 e.f1.f0 e.f1.f1.f0 e.f1.f1.f1 e.f2) (Al.succ (min_loop e s (pn e s) (by rw [hl]; exact ats_len e) (fun i hi q => ?_) (fun i hi q => ?_) _ 0 (Nat.zero_add _)) fun k => ?_) (fun k => by rw [hd1]; rfl)
    · exact (le_fst _ s).1 i (by omega) (p2 i (by omega) q)
    · unfold hd
      rw [p3 i (by omega) q, Bool.and_false]
    · simp only [clusterlockslaw08_FormulaMinimal.j0]
      rw [if_neg (by decide)]
      rfl
  · exact Al.congr (g := fun k => (clusterlockslaw08_awake.f k).bind fun t482 => (some t482)) (Al.bind Pw.awake_al (Al.val fun k => rfl)) (fun k => if_neg h)
end Go.Proofs.Ytefbcebpokoinaa.Pure

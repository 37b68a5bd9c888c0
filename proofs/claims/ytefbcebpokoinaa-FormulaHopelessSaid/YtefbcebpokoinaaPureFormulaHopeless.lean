/- An expression is hopeless exactly if it does not hold for all atoms that are not dead. Conditions: those of the statement. -/
import Derived.Test.YtefbcebpokoinaaPw
import Derived.Test.YtefbcebpokoinaaPh
import Derived.Test.YtefbcebpokoinaaYQFormulaHopeless
namespace Go.Proofs.Ytefbcebpokoinaa.Pure
open Go.RowKit Go.Proofs.Ytefbcebpokoinaa.Y Go.Proofs.Ytefbcebpokoinaa.Pa Go.Proofs.Ytefbcebpokoinaa.Ps Go.Proofs.Ytefbcebpokoinaa.Pr Go.Proofs.Ytefbcebpokoinaa.Ph Go.Proofs.YtefbcebpokoinaaW.PrintWords Go.Proofs.YtefbcebpokoinaaW.PrintLast Go.Proofs.YtefbcebpokoinaaW.PrintMore
theorem alive3 (e : S28) (d : List Bool) (n : Nat) (hn : n ≤ 8) (he : hl e d ≠ hd e (alv n d)) : ∀ (m i : Nat), i + m = n → Al (fun k => clusterlockslaw08_FormulaHopeless.l0 k d (n : Int) (parB (alv n d) i) (i : Int) e.f0 e.f1.f0 e.f1.f1.f0 e.f1.f1.f1 e.f2) true
  | 0, i, h => by
    obtain rfl : i = n := h
    have e2 : parB (alv i d) i = alv i d := by
      have := parB_all (alv i d)
      rwa [alv_len] at this
    rw [e2]
    refine Al.succB (g := fun k => clusterlockslaw08_awake.f k) (f := fun k t => if t = true then ((formula_Hopeless.f k e.f0 e.f1.f0 e.f1.f1.f0 e.f1.f1.f1 e.f2 d).bind fun t451 => ((formula_Holds.f k e.f0 e.f1.f0 e.f1.f1.f0 e.f1.f1.f1 e.f2 (alv i d)).bind fun t452 => (some (t451 != t452)))) else none) (fun k => ?_) Pw.awake_al (Al.congr (Al.bind (hopeless1 e d) (Al.bind (holds1 e _) (Al.val fun k => ?_))) fun k => if_pos rfl)
    · simp only [clusterlockslaw08_FormulaHopeless.l0]
      rw [if_neg (by omega)]
    · rw [bne_iff_ne.mpr he]
  | m + 1, i, h => by
    have hl : (parB (alv n d) i).length = n := by rw [parB_len _ (by rw [alv_len]; omega), alv_len]
    have hs : (parB (alv n d) i).set i (!(d.getD i false)) = parB (alv n d) (i + 1) := by
      rw [← parB_set (alv n d) (by rw [alv_len]; omega), alv_get (by omega)]
    refine Al.succ (alive3 e d n hn he m (i + 1) (by omega)) fun k => ?_
    simp only [clusterlockslaw08_FormulaHopeless.l0]
    rw [hl, if_pos (by omega), w64_id (n := (i : Int) + 1) (by omega) (by omega), Int.toNat_natCast, rdb]
    by_cases hd : (i : Int) ≥ (d.length : Int)
    · rw [if_pos hd, if_pos (by omega), if_pos (by omega)]
      rw [past (by omega)] at hs
      show clusterlockslaw08_FormulaHopeless.l0 k d _ ((parB (alv n d) i).set i true) _ _ _ _ _ _ = _
      rw [show true = !false from rfl, hs]
      rfl
    · rw [if_neg hd, if_pos (by omega), if_pos (by omega), if_pos (by omega), hs]
      rfl
theorem FormulaHopeless : clusterlockslaw08_FormulaHopeless.PureX := by
  intro e d n0 _ _ _
  have hv2 : Al (fun k => clusterlocksref07_ValidExpr.f k e.f0 e.f1.f0 e.f1.f1.f0 e.f1.f1.f1 e.f2) (decide (valid e)) := Al.bindE (fun k => rfl) (atoms2 e) (Al.val fun k => rfl)
  refine Al.ex (Al.bindE (fun k => rfl) hv2 ?_)
  have h8 := ats_len e
  by_cases h : valid e
  · have he : hl e d ≠ hd e (alv (ats e).length d) := by
      unfold hl hd
      rw [decide_eq_true h, Bool.true_and, Bool.true_and]
      cases hv e (ats e) (alv (ats e).length d) <;> decide
    refine Al.congr (g := fun k => (clusterlocksref08_Atoms.f k e.f0 e.f1.f0 e.f1.f1.f0 e.f1.f1.f1 e.f2).bind fun t441 => (if 0 ≤ (t441.length : Int) then (if ((t441.length : Int) : Int).toNat ≤ 281474976710656 then (clusterlockslaw08_FormulaHopeless.l0 k d (t441.length : Int) (List.replicate ((t441.length : Int) : Int).toNat false) 0 e.f0 e.f1.f0 e.f1.f1.f0 e.f1.f1.f1 e.f2) else (none)) else (none))) (Al.bind (atoms3 e) (Al.congr (alive3 e d _ h8 he _ 0 (Nat.zero_add _)) fun k => ?_)) (fun k => by rw [decide_eq_true h, if_pos rfl])
    rw [if_pos (by omega), if_pos (by omega), rep_part _ d]
    rfl
  · refine Al.congr (g := fun k => (clusterlockslaw08_awake.f k).bind fun t439 => (if t439 = true then ((formula_Hopeless.f k e.f0 e.f1.f0 e.f1.f1.f0 e.f1.f1.f1 e.f2 d).bind fun t440 => (some (!t440))) else (none))) (Al.bind Pw.awake_al (Al.congr (Al.bind (hopeless1 e d) (Al.val fun k => ?_)) fun k => if_pos rfl)) (fun k => by rw [decide_eq_false h, if_neg (by decide)])
    unfold hl
    rw [decide_eq_false h]
    rfl
end Go.Proofs.Ytefbcebpokoinaa.Pure

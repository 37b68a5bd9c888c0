/- More atoms never make an expression false; it holds for all its atoms and not for none. Conditions: those of the statement. -/
import Derived.Test.YtefbcebpokoinaaPw
import Derived.Test.YtefbcebpokoinaaPm
import Derived.Test.YtefbcebpokoinaaYQFormulaMonotone
namespace Go.Proofs.Ytefbcebpokoinaa.Pure
open Go.RowKit Go.Proofs.Ytefbcebpokoinaa.Y Go.Proofs.Ytefbcebpokoinaa.Pa Go.Proofs.Ytefbcebpokoinaa.Ps Go.Proofs.Ytefbcebpokoinaa.Pr Go.Proofs.Ytefbcebpokoinaa.Ph Go.Proofs.Ytefbcebpokoinaa.Pp Go.Proofs.Ytefbcebpokoinaa.Pm Go.Proofs.YtefbcebpokoinaaW.PrintWords Go.Proofs.YtefbcebpokoinaaW.PrintLast Go.Proofs.YtefbcebpokoinaaW.PrintMore
set_option linter.unusedVariables false
def bth (n : Nat) (s m : List Bool) : List Bool := (List.range n).map fun i => s.getD i false || m.getD i false
theorem bth_len (n : Nat) (s m : List Bool) : (bth n s m).length = n := by simp [bth]
theorem bth_get {n : Nat} {s m : List Bool} {i : Nat} (h : i < n) : (bth n s m)[i]'(by rw [bth_len]; exact h) = (s.getD i false || m.getD i false) := by simp [bth]
theorem bth_getD {n : Nat} {s m : List Bool} {i : Nat} (h : i < n) : (bth n s m).getD i false = (s.getD i false || m.getD i false) := by
  rw [← bth_get h, List.getD_eq_getElem?_getD, List.getElem?_eq_getElem (by rw [bth_len]; exact h)]
  rfl
def allT (n : Nat) : List Bool := List.replicate n true
theorem mono_loop (e : S28) (s m : List Bool) (n : Nat) (hn0 : 0 < n) (hn : n ≤ 8) (h1 : hd e s = true → hd e (bth n s m) = true) (h2 : hd e (allT n) = true) (h3 : hd e [] = false) : ∀ (d i : Nat), i + d = n → Al (fun k => clusterlockslaw08_FormulaMonotone.l0 k s m (n : Int) (parB (bth n s m) i) (parB (allT n) i) (i : Int) e.f0 e.f1.f0 e.f1.f1.f0 e.f1.f1.f1 e.f2) true
  | 0, i, h => by
    obtain rfl : i = n := h
    have e1 : parB (bth i s m) i = bth i s m := by
      have := parB_all (bth i s m)
      rwa [bth_len] at this
    have e2 : parB (allT i) i = allT i := by
      have := parB_all (allT i)
      rwa [show (allT i).length = i from List.length_replicate] at this
    rw [e1, e2]
    have n1 : Al (fun k => (formula_Holds.f k e.f0 e.f1.f0 e.f1.f1.f0 e.f1.f1.f1 e.f2 ([] : List Bool)).bind fun t => some (!t)) true := Al.eq (Al.bind (f := fun _ t => some (!t)) (holds1 e []) (Al.val (r := !hd e []) fun k => rfl)) (by rw [h3]; rfl)
    have tail : Al (fun k => (formula_Holds.f k e.f0 e.f1.f0 e.f1.f1.f0 e.f1.f1.f1 e.f2 (allT i)).bind fun t428 => (if t428 = true then ((formula_Holds.f k e.f0 e.f1.f0 e.f1.f1.f0 e.f1.f1.f1 e.f2 ([] : List Bool)).bind fun t429 => (some (!t429))) else (none))) true :=
      Al.bind (f := fun k t428 => (if t428 = true then ((formula_Holds.f k e.f0 e.f1.f0 e.f1.f1.f0 e.f1.f1.f1 e.f2 ([] : List Bool)).bind fun t429 => (some (!t429))) else (none))) (holds1 e (allT i)) (Al.congr n1 fun k => by rw [if_pos h2])
    have both : hd e s = true → Al (fun k => (formula_Holds.f k e.f0 e.f1.f0 e.f1.f1.f0 e.f1.f1.f1 e.f2 (bth i s m)).bind fun t427 => (if t427 = true then ((formula_Holds.f k e.f0 e.f1.f0 e.f1.f1.f0 e.f1.f1.f1 e.f2 (allT i)).bind fun t428 => (if t428 = true then ((formula_Holds.f k e.f0 e.f1.f0 e.f1.f1.f0 e.f1.f1.f1 e.f2 ([] : List Bool)).bind fun t429 => (some (!t429))) else (none))) else (none))) true := fun hs =>
      Al.bind (f := fun k t427 => (if t427 = true then ((formula_Holds.f k e.f0 e.f1.f0 e.f1.f1.f0 e.f1.f1.f1 e.f2 (allT i)).bind fun t428 => (if t428 = true then ((formula_Holds.f k e.f0 e.f1.f0 e.f1.f1.f0 e.f1.f1.f1 e.f2 ([] : List Bool)).bind fun t429 => (some (!t429))) else (none))) else (none))) (holds1 e (bth i s m)) (Al.congr tail fun k => by rw [if_pos (h1 hs)])
    refine Al.succB (g := fun k => clusterlockslaw08_awake.f k) (f := fun k t425 => (if t425 = true then (if (i : Int) > 0 then ((formula_Holds.f k e.f0 e.f1.f0 e.f1.f1.f0 e.f1.f1.f1 e.f2 s).bind fun t426 => (if t426 = true then ((formula_Holds.f k e.f0 e.f1.f0 e.f1.f1.f0 e.f1.f1.f1 e.f2 (bth i s m)).bind fun t427 => (if t427 = true then ((formula_Holds.f k e.f0 e.f1.f0 e.f1.f1.f0 e.f1.f1.f1 e.f2 (allT i)).bind fun t428 => (if t428 = true then ((formula_Holds.f k e.f0 e.f1.f0 e.f1.f1.f0 e.f1.f1.f1 e.f2 ([] : List Bool)).bind fun t429 => (some (!t429))) else (none))) else (none))) else ((formula_Holds.f k e.f0 e.f1.f0 e.f1.f1.f0 e.f1.f1.f1 e.f2 (allT i)).bind fun t430 => (if t430 = true then ((formula_Holds.f k e.f0 e.f1.f0 e.f1.f1.f0 e.f1.f1.f1 e.f2 ([] : List Bool)).bind fun t431 => (some (!t431))) else (none))))) else (none)) else (none))) (fun k => ?_) Pw.awake_al (Al.congr (Al.bind (holds1 e s) ?_) fun k => by rw [if_pos rfl, if_pos (by omega)])
    · simp only [clusterlockslaw08_FormulaMonotone.l0]
      rw [if_neg (by omega)]
    · by_cases hs : hd e s = true
      · exact Al.congr (both hs) fun k => by rw [if_pos hs]
      · exact Al.congr tail fun k => by rw [if_neg hs]
  | d + 1, i, h => by
    have l1 : (parB (bth n s m) i).length = n := by rw [parB_len _ (by rw [bth_len]; omega), bth_len]
    have la : (allT n).length = n := List.length_replicate
    have l2 : (parB (allT n) i).length = n := by rw [parB_len _ (by rw [la]; omega), la]
    have s1 : (parB (bth n s m) i).set i (s.getD i false || m.getD i false) = parB (bth n s m) (i + 1) := by
      rw [← parB_set (bth n s m) (by rw [bth_len]; omega), bth_get (by omega)]
    have s2 : (parB (allT n) i).set i true = parB (allT n) (i + 1) := by
      rw [← parB_set (allT n) (by rw [la]; omega)]
      congr 1
      simp [allT]
    refine Al.succ (mono_loop e s m n hn0 hn h1 h2 h3 d (i + 1) (by omega)) fun k => ?_
    simp only [clusterlockslaw08_FormulaMonotone.l0]
    rw [l1, l2, if_pos (by omega), w64_id (n := (i : Int) + 1) (by omega) (by omega), Int.toNat_natCast, rdb, rdb, s2]
    have hin : (i : Int) < (n : Int) := by omega
    have hi0 : (0 : Int) ≤ (i : Int) := by omega
    rw [← s1]
    by_cases ha : (i : Int) < (s.length : Int)
    · by_cases hb : s.getD i false = true
      · rw [if_pos ha, if_pos hi0, if_pos hb, if_pos hin, if_pos hin, hb, Bool.true_or]
        rfl
      · by_cases hc : (i : Int) < (m.length : Int)
        · rw [if_pos ha, if_pos hi0, if_neg hb, if_pos hc, if_pos hin, if_pos hin, Bool.eq_false_iff.mpr hb, Bool.false_or]
          rfl
        · rw [if_pos ha, if_pos hi0, if_neg hb, if_neg hc, if_pos hin, if_pos hin, Bool.eq_false_iff.mpr hb, Bool.false_or, past (s := m) (by omega)]
          rfl
    · have hb : s.getD i false = false := past (by omega)
      by_cases hc : (i : Int) < (m.length : Int)
      · rw [if_neg ha, if_pos hc, if_pos hi0, if_pos hin, if_pos hin, hb, Bool.false_or]
        rfl
      · rw [if_neg ha, if_neg hc, if_pos hi0, if_pos hin, if_pos hin, hb, Bool.false_or, past (s := m) (by omega)]
        rfl
theorem FormulaMonotone : clusterlockslaw08_FormulaMonotone.PureX := by
  intro l s m hl _ _ _ _ _
  have hlight : clusterlocksmill_Light.f l = some (decide ((l.length : Int) ≤ 300)) := rfl
  refine Al.ex (r := true) ?_
  by_cases h : (l.length : Int) ≤ 300
  · obtain ⟨c, p, hC, hc, hp⟩ := catalog_f l (by omega)
    obtain ⟨A, e, p2, hE, hA, hs, hq⟩ := expr_f l c hc p hp
    obtain ⟨hv, _⟩ := sub_valid hc hA hs
    obtain ⟨e1, e2⟩ := holds_ends hv
    have hpos := ats_pos hv
    have h8 := ats_len e
    have hm : hd e s = true → hd e (bth (ats e).length s m) = true := by
      unfold hd
      intro q
      rw [Bool.and_eq_true] at q ⊢
      exact ⟨q.1, (hv_mono (ats e) s _ (fun i hi w => by rw [bth_getD hi, w, Bool.true_or])).1 e q.2⟩
    refine Al.congr (g := fun k => (clusterlocksmill_Catalog.f k l 0).bind fun bt390 => ((clusterlocksmill_Expr.f k l bt390.2 bt390.1).bind fun bt394 => ((formula_Atoms.f k bt394.1 bt394.2.1 bt394.2.2.1 bt394.2.2.2.1 bt394.2.2.2.2.1).bind fun t403 => (if 0 ≤ (t403.length : Int) then (if ((t403.length : Int) : Int).toNat ≤ 281474976710656 then (clusterlockslaw08_FormulaMonotone.l0 k s m (t403.length : Int) (List.replicate ((t403.length : Int) : Int).toNat false) (List.replicate ((t403.length : Int) : Int).toNat false) 0 bt394.1 bt394.2.1 bt394.2.2.1 bt394.2.2.2.1 bt394.2.2.2.2.1) else (none)) else (none))))) (Al.bind hC (Al.bind hE (Al.bind (atoms1 e) (Al.congr (mono_loop e s m (ats e).length hpos h8 hm e1 e2 _ 0 (Nat.zero_add _)) fun k => ?_)))) (fun k => ?_)
    · rw [if_pos (by omega), if_pos (by omega), parB_zero, parB_zero, bth_len, show (allT (ats e).length).length = (ats e).length from List.length_replicate, Int.toNat_natCast]
      rfl
    · unfold clusterlockslaw08_FormulaMonotone.f
      rw [hlight, decide_eq_true h]
      rfl
  · refine Al.congr (g := fun k => (clusterlockslaw08_awake.f k).bind fun t388 => (some t388)) (Al.bind Pw.awake_al (Al.val fun k => rfl)) (fun k => ?_)
    unfold clusterlockslaw08_FormulaMonotone.f
    rw [hlight, decide_eq_false h]
    rfl
end Go.Proofs.Ytefbcebpokoinaa.Pure

import Derived.Test.YtgomhoolipfkmaaPi
import Derived.Test.YtgomhoolipfkmaaPvr
import Derived.Test.YtgomhoolipfkmaaY15
namespace Go.Proofs.Ytgomhoolipfkmaa.Pl
open Go.RowKit Go.Proofs.Ytgomhoolipfkmaa.Y Go.Proofs.Ytgomhoolipfkmaa.Pa Go.Proofs.YtgomhoolipfkmaaW.PrintWords Go.Proofs.YtgomhoolipfkmaaW.PrintLast Go.Proofs.YtgomhoolipfkmaaW.PrintMore
set_option linter.unusedVariables false
set_option linter.unusedSimpArgs false
theorem rins_l1 (l : List S28) (hl : l.length < 1000) (at_ : Int) (d : Nat) : ∀ (i : Int) (out : List S28), 0 ≤ i → i + d = l.length → out.length ≤ 2000 - d → Al (fun k => clusterlocksref11_Insert.l1 k l at_ out i) (out ++ (l.drop i.toNat).map bump, at_, 0) := by
  induction d with
  | zero =>
    intro i out h0 h1 ho
    refine (Al.succV fun k => ?_).eq (r := (out, at_, 0)) ?_
    · simp only [clusterlocksref11_Insert.l1]
      rw [if_neg (by omega)]
    · rw [List.drop_of_length_le (by omega)]
      simp
  | succ d ih =>
    intro i out h0 h1 ho
    rw [drop_cons_getD z28 l i.toNat (by omega)]
    refine (Al.succ (ih (i + 1) (out ++ [bump (rd_T28 l i)]) (by omega) (by omega) (by simp; omega)) fun k => ?_).eq ?_
    · simp only [clusterlocksref11_Insert.l1]
      rw [if_pos (by omega), if_pos h0]
      simp only [Option.bind_some]
      rw [if_pos (by simp; omega), w64_id (n := i + 1) (by omega) (by omega)]
      rfl
    · rw [show (i + 1).toNat = i.toNat + 1 by omega]
      simp [rd28]
theorem rins_j2 (l : List S28) (hl : l.length < 1000) (w : S28) (at_ : Int) (h0 : 0 ≤ at_) (h1 : at_ ≤ l.length) : Al (fun k => clusterlocksref11_Insert.j2 k l at_ w.f0.f0 w.f0.f1 w.f0.f2 w.f1.f0 w.f1.f1 w.f2 w.f3) (l.take at_.toNat ++ w :: (l.drop at_.toNat).map bump, at_, 0) := by
  refine (Al.succ (rins_l1 l hl at_ (l.length - at_.toNat) at_ (l.take at_.toNat ++ [w]) h0 (by omega) (by simp; omega)) fun k => ?_).eq (by simp)
  simp only [clusterlocksref11_Insert.j2, Option.bind_some, List.nil_append]
  rw [if_pos h0, if_pos h1, if_pos (by simp; omega), if_pos (by simp; omega)]
theorem rins_l0 (l : List S28) (hl : l.length < 1000) (w : S28) : ∀ (n : Nat), n ≤ l.length → Al (fun k => clusterlocksref11_Insert.l0 k l (n : Int) w.f0.f0 w.f0.f1 w.f0.f2 w.f1.f0 w.f1.f1 w.f2 w.f3) (l.take (pos l w.f2 n) ++ w :: (l.drop (pos l w.f2 n)).map bump, (pos l w.f2 n : Int), 0)
  | 0, _ => by
    refine Al.succ (rins_j2 l hl w 0 (by omega) (by omega)) fun k => ?_
    simp only [clusterlocksref11_Insert.l0]
    rw [if_neg (by omega)]
    rfl
  | n + 1, h => by
    have e1 : wrap64 (((n + 1 : Nat) : Int) - 1) = n := by rw [w64_id (by omega) (by omega)]; omega
    have hp : rd_T28 l (n : Int) = l.getD n z28 := by rw [rd28, Int.toNat_natCast]
    simp only [pos]
    have step : ∀ k, clusterlocksref11_Insert.l0 (k + 1) l ((n + 1 : Nat) : Int) w.f0.f0 w.f0.f1 w.f0.f2 w.f1.f0 w.f1.f1 w.f2 w.f3 = if (l.getD n z28).f2 < w.f2 then (if (l.getD n z28).f3 < 3 then clusterlocksref11_Insert.l0 k l (n : Int) w.f0.f0 w.f0.f1 w.f0.f2 w.f1.f0 w.f1.f1 w.f2 w.f3 else clusterlocksref11_Insert.j2 k l ((n + 1 : Nat) : Int) w.f0.f0 w.f0.f1 w.f0.f2 w.f1.f0 w.f1.f1 w.f2 w.f3) else clusterlocksref11_Insert.j2 k l ((n + 1 : Nat) : Int) w.f0.f0 w.f0.f1 w.f0.f2 w.f1.f0 w.f1.f1 w.f2 w.f3 := fun k => by
      simp only [clusterlocksref11_Insert.l0]
      rw [if_pos (by omega), e1, if_pos (by omega), if_pos (by omega), hp]
    have hj := rins_j2 l hl w ((n + 1 : Nat) : Int) (by omega) (by omega)
    rw [Int.toNat_natCast] at hj
    by_cases c1 : (l.getD n z28).f2 < w.f2
    · by_cases c2 : (l.getD n z28).f3 < 3
      · rw [if_pos ⟨c1, c2⟩]
        exact Al.succ (rins_l0 l hl w n (by omega)) fun k => by rw [step, if_pos c1, if_pos c2]
      · rw [if_neg (fun h => c2 h.2)]
        exact Al.succ hj fun k => by rw [step, if_pos c1, if_neg c2]
    · rw [if_neg (fun h => c1 h.1)]
      exact Al.succ hj fun k => by rw [step, if_neg c1]
theorem rins (l : List S28) (hl : l.length < 1000) (w : S28) : Al (fun k => clusterlocksref11_Insert.f k l w.f0.f0 w.f0.f1 w.f0.f2 w.f1.f0 w.f1.f1 w.f2 w.f3) (ins l w) := by
  unfold ins
  refine Al.bindE (fun k => rfl) (rvalid l (by omega)) ?_
  by_cases h1 : VL l = true
  · rw [if_pos h1, h1]
    refine Al.congr (g := fun k => if VW w = true then clusterlocksref11_Insert.j0 k l (w.f3 != 0) w.f0.f0 w.f0.f1 w.f0.f2 w.f1.f0 w.f1.f1 w.f2 w.f3 else clusterlocksref11_Insert.j0 k l true w.f0.f0 w.f0.f1 w.f0.f2 w.f1.f0 w.f1.f1 w.f2 w.f3) ?_ (fun k => by rw [if_pos rfl, vw2, vw_eq]; rfl)
    have hbad : Al (fun k => clusterlocksref11_Insert.j0 k l true w.f0.f0 w.f0.f1 w.f0.f2 w.f1.f0 w.f1.f1 w.f2 w.f3) ([], 0, 1) := Al.succV fun k => by simp only [clusterlocksref11_Insert.j0]; rfl
    by_cases h2 : VW w = true
    · by_cases h3 : w.f3 = 0
      · rw [if_pos ⟨h2, h3⟩]
        refine Al.congr (g := fun k => clusterlocksref11_Insert.j0 k l false w.f0.f0 w.f0.f1 w.f0.f2 w.f1.f0 w.f1.f1 w.f2 w.f3) ?_ (fun k => by rw [if_pos h2, h3]; rfl)
        refine Al.succB (g := fun k => clusterlocksref11_Find.f k l w.f0.f0 w.f0.f1 w.f0.f2) (f := fun k t => if t ≥ 0 then some (([] : List S28), 0, 11) else if (l.length : Int) = 8 then some (([] : List S28), 0, 4) else clusterlocksref11_Insert.l0 k l (l.length : Int) w.f0.f0 w.f0.f1 w.f0.f2 w.f1.f0 w.f1.f1 w.f2 w.f3) (fun k => ?_) (rfind l (by omega) _ _ _) ?_
        · simp only [clusterlocksref11_Insert.j0]
          rw [if_neg (by simp)]
        by_cases h4 : 0 ≤ Xw.idx_ (line_Find.p w.f0.f0 w.f0.f1 w.f0.f2) l
        · rw [if_pos h4]
          exact Al.val fun k => if_pos h4
        · rw [if_neg h4]
          by_cases h5 : l.length = 8
          · rw [if_pos h5]
            exact Al.val fun k => by rw [if_neg h4, if_pos (by omega)]
          · rw [if_neg h5]
            exact (rins_l0 l hl w l.length (Nat.le_refl _)).congr fun k => by rw [if_neg h4, if_neg (by omega)]
      · rw [if_neg (fun h => h3 h.2)]
        exact hbad.congr fun k => by rw [if_pos h2, show (w.f3 != 0) = true by simpa using h3]
    · rw [if_neg (fun h => h2 h.1)]
      exact hbad.congr fun k => by rw [if_neg h2]
  · rw [if_neg h1]
    refine Al.val fun k => ?_
    rw [if_neg h1]
end Go.Proofs.Ytgomhoolipfkmaa.Pl

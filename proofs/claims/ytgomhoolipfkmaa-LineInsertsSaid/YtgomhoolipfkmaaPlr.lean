import Derived.Test.YtgomhoolipfkmaaPl
import Derived.Test.YtgomhoolipfkmaaY8
import Derived.Test.YtgomhoolipfkmaaY9
import Derived.Test.YtgomhoolipfkmaaY10
import Derived.Test.YtgomhoolipfkmaaY11
import Derived.Test.YtgomhoolipfkmaaY12
namespace Go.Proofs.Ytgomhoolipfkmaa.Pl
open Go.RowKit Go.Proofs.Ytgomhoolipfkmaa.Y Go.Proofs.Ytgomhoolipfkmaa.Pa Go.Proofs.YtgomhoolipfkmaaW.PrintWords Go.Proofs.YtgomhoolipfkmaaW.PrintLast Go.Proofs.YtgomhoolipfkmaaW.PrintMore
set_option linter.unusedVariables false
set_option linter.unusedSimpArgs false
theorem vp2 (a b c : Int) : clusterlocksref02_ValidProc.f a b c = some (VP a b c) := vp1 a b c
theorem vm3 (m : Int) : clusterlocksref03_Valid.f m = some (decide (m ≥ 1) && decide (m ≤ 5)) := vm m
theorem usable (m u : Int) : clusterlocksref07_Usable.f m u = some (VU m u) := by
  unfold clusterlocksref07_Usable.f VU
  rw [vm3]
  simp only [Option.bind_some]
  by_cases h0 : m = 0
  · subst h0
    by_cases h2 : u ≥ 1 <;> by_cases h3 : u ≤ 8 <;> simp [h2, h3]
  · by_cases h1 : m ≥ 1 <;> by_cases h2 : m ≤ 5 <;> by_cases h3 : u = 0 <;> simp [h0, h1, h2, h3]
theorem vw2 (a b c m u p q : Int) : clusterlocksref11_ValidWait.f a b c m u p q = some (VP a b c && VU m u && VR p q) := by
  unfold clusterlocksref11_ValidWait.f VR
  rw [vp2, usable]
  simp only [Option.bind_some]
  cases VP a b c <;> cases VU m u <;> by_cases h1 : p ≥ 0 <;> by_cases h2 : p ≤ 7 <;> by_cases h3 : q ≥ 0 <;> simp [h1, h2, h3]
theorem rfind_l0 (l : List S28) (hl : l.length ≤ 140737488355328) (a b c : Int) (d : Nat) : ∀ i : Int, 0 ≤ i → i + d = l.length → Al (fun k => clusterlocksref11_Find.l0 k l i a b c) (if Xw.idx_ (line_Find.p a b c) (l.drop i.toNat) = -1 then -1 else Xw.idx_ (line_Find.p a b c) (l.drop i.toNat) + i) := by
  induction d with
  | zero =>
    intro i h0 h1
    refine Al.succV fun k => ?_
    simp only [clusterlocksref11_Find.l0]
    rw [if_neg (by omega), List.drop_of_length_le (by omega)]
    rfl
  | succ d ih =>
    intro i h0 h1
    have hg := Xw.idx_ge (line_Find.p a b c) (l.drop (i.toNat + 1))
    rw [idx_drop _ z28 l i.toNat (by omega)]
    cases hp : line_Find.p a b c (l.getD i.toNat z28) with
    | true =>
      refine Al.succV fun k => ?_
      simp only [clusterlocksref11_Find.l0]
      rw [if_pos (by omega), if_pos h0, if_pos (by exact hp)]
      simp
    | false =>
      refine (Al.succ (ih (i + 1) (by omega) (by omega)) fun k => ?_).eq ?_
      · simp only [clusterlocksref11_Find.l0]
        rw [if_pos (by omega), if_pos h0, if_neg (by rw [rd28]; exact fun h => by have := hp.symm.trans h; cases this), w64_id (by omega) (by omega)]
      · rw [show (i + 1).toNat = i.toNat + 1 by omega]
        simp only [Bool.false_eq_true, if_false]
        by_cases e : Xw.idx_ (line_Find.p a b c) (l.drop (i.toNat + 1)) = -1
        · simp [e]
        · rw [if_neg e, if_neg e, if_neg (by omega)]
          omega
theorem rfind (l : List S28) (hl : l.length ≤ 140737488355328) (a b c : Int) : Al (fun k => clusterlocksref11_Find.f k l a b c) (Xw.idx_ (line_Find.p a b c) l) := by
  refine (rfind_l0 l hl a b c l.length 0 (by omega) (by omega)).eq ?_
  simp only [Int.toNat_zero, List.drop_zero, Int.add_zero]
  split <;> simp_all
end Go.Proofs.Ytgomhoolipfkmaa.Pl

import Derived.Test.YtgomhoolipfkmaaPv
import Derived.Test.YtgomhoolipfkmaaPlr
import Derived.Test.YtgomhoolipfkmaaY13
namespace Go.Proofs.Ytgomhoolipfkmaa.Pl
open Go.RowKit Go.Proofs.Ytgomhoolipfkmaa.Y Go.Proofs.Ytgomhoolipfkmaa.Pa Go.Proofs.YtgomhoolipfkmaaW.PrintWords Go.Proofs.YtgomhoolipfkmaaW.PrintLast Go.Proofs.YtgomhoolipfkmaaW.PrintMore
set_option linter.unusedVariables false
set_option linter.unusedSimpArgs false
theorem rvalid_l0 (l : List S28) (hl : l.length ≤ 140737488355328) (d : Nat) : ∀ i : Int, 0 ≤ i → i + d = l.length → Al (fun k => clusterlocksref11_Valid.l0 k l i) (vl l d i.toNat) := by
  induction d with
  | zero =>
    intro i h0 h1
    refine Al.succV fun k => ?_
    simp only [clusterlocksref11_Valid.l0]
    rw [if_neg (by omega)]
    rfl
  | succ d ih =>
    intro i h0 h1
    simp only [vl]
    cases hw : VW (l.getD i.toNat z28) with
    | false =>
      refine Al.succV fun k => ?_
      simp only [clusterlocksref11_Valid.l0]
      rw [if_pos (by omega), if_pos h0, vw2]
      have e : (VP (rd_T28 l i).f0.f0 (rd_T28 l i).f0.f1 (rd_T28 l i).f0.f2 && VU (rd_T28 l i).f1.f0 (rd_T28 l i).f1.f1 && VR (rd_T28 l i).f2 (rd_T28 l i).f3) = false := hw
      rw [e]
      simp
    | true =>
      have e : (VP (rd_T28 l i).f0.f0 (rd_T28 l i).f0.f1 (rd_T28 l i).f0.f2 && VU (rd_T28 l i).f1.f0 (rd_T28 l i).f1.f1 && VR (rd_T28 l i).f2 (rd_T28 l i).f3) = true := hw
      refine Al.succB (g := fun k => clusterlocksref11_Find.f k l (rd_T28 l i).f0.f0 (rd_T28 l i).f0.f1 (rd_T28 l i).f0.f2) (f := fun k t => if t = i then (clusterlocksref11_Valid.l0 k l (wrap64 (i + 1))) else (some false)) (fun k => ?_) (rfind l hl _ _ _) ?_
      · simp only [clusterlocksref11_Valid.l0]
        rw [if_pos (by omega), if_pos h0, vw2, e]
        rfl
      · rw [← rd28]
        by_cases hf : Xw.idx_ (line_Find.p (rd_T28 l i).f0.f0 (rd_T28 l i).f0.f1 (rd_T28 l i).f0.f2) l = i
        · refine ((ih (i + 1) (by omega) (by omega)).congr fun k => ?_).eq ?_
          · rw [if_pos hf, w64_id (by omega) (by omega)]
          · rw [show (i + 1).toNat = i.toNat + 1 by omega, hf]
            simp
            omega
        · refine (Al.val fun k => if_neg hf).eq ?_
          have : ¬ Xw.idx_ (line_Find.p (rd_T28 l i).f0.f0 (rd_T28 l i).f0.f1 (rd_T28 l i).f0.f2) l = (i.toNat : Int) := by omega
          rw [decide_eq_false this]
          simp
theorem rvalid (l : List S28) (hl : l.length ≤ 140737488355328) : Al (fun k => clusterlocksref11_Valid.f k l) (VL l) := by
  unfold VL
  by_cases h : l.length ≤ 8
  · refine ((rvalid_l0 l hl l.length 0 (by omega) (by omega)).congr fun k => ?_).eq ?_
    · unfold clusterlocksref11_Valid.f
      rw [if_neg (by omega)]
    · simp [h]
  · refine (Al.val fun k => ?_).eq (r := false) ?_
    · unfold clusterlocksref11_Valid.f
      rw [if_pos (by omega)]
    · simp [h]
end Go.Proofs.Ytgomhoolipfkmaa.Pl

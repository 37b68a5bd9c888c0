import Derived.Test.YtgomhoolipfkmaaPl
import Derived.Test.YtgomhoolipfkmaaY4
namespace Go.Proofs.Ytgomhoolipfkmaa.Pl
open Go.RowKit Go.Proofs.Ytgomhoolipfkmaa.Y Go.Proofs.Ytgomhoolipfkmaa.Pa Go.Proofs.YtgomhoolipfkmaaW.PrintWords Go.Proofs.YtgomhoolipfkmaaW.PrintLast Go.Proofs.YtgomhoolipfkmaaW.PrintMore
set_option linter.unusedVariables false
set_option linter.unusedSimpArgs false
/-! Valid lines. -/
def vl (l : List S28) : Nat → Nat → Bool
  | 0, _ => true
  | d + 1, i => VW (l.getD i z28) && decide (Xw.idx_ (line_Find.p (l.getD i z28).f0.f0 (l.getD i z28).f0.f1 (l.getD i z28).f0.f2) l = i) && vl l d (i + 1)
def VL (l : List S28) : Bool := decide (l.length ≤ 8) && vl l l.length 0
theorem idx_take {α : Type} (p : α → Bool) (z : α) : ∀ (l : List α) (n : Nat), n < l.length → p (l.getD n z) = true → (0 ≤ Xw.idx_ p (l.take n) ↔ Xw.idx_ p l ≠ n)
  | [], n, h, _ => absurd h (Nat.not_lt_zero _)
  | x :: t, 0, _, hp => by simp at hp; simp [Xw.idx_, hp]
  | x :: t, n + 1, h, hp => by
    have ih := idx_take p z t n (by simpa using h) (by simpa using hp)
    have hg := Xw.idx_ge p t
    have hg2 := Xw.idx_ge p (t.take n)
    simp only [List.take_succ_cons, Xw.idx_]
    cases hx : p x with
    | true => simp; omega
    | false =>
      simp only [Bool.false_eq_true, if_false]
      split <;> split <;> (constructor <;> intro hh <;> first | omega | (by_cases hc : Xw.idx_ p t = n <;> simp_all <;> omega))
theorem lvalid_l0 (l : List S28) (hl : l.length ≤ 140737488355328) (d : Nat) : ∀ i : Int, 0 ≤ i → i + d = l.length → Al (fun k => line_Valid.l0 k l l (l.length : Int) i) (vl l d i.toNat) := by
  induction d with
  | zero =>
    intro i h0 h1
    refine Al.succV fun k => ?_
    simp only [line_Valid.l0]
    rw [if_neg (by omega)]
    rfl
  | succ d ih =>
    intro i h0 h1
    simp only [vl]
    cases hw : VW (l.getD i.toNat z28) with
    | false =>
      refine Al.succV fun k => ?_
      simp only [line_Valid.l0]
      rw [if_pos (by omega), if_pos h0, if_pos (by omega), vw1]
      have e : (VP (rd_T28 l i).f0.f0 (rd_T28 l i).f0.f1 (rd_T28 l i).f0.f2 && VU (rd_T28 l i).f1.f0 (rd_T28 l i).f1.f1 && VR (rd_T28 l i).f2 (rd_T28 l i).f3) = false := hw
      rw [e]
      simp
    | true =>
      have e : (VP (rd_T28 l i).f0.f0 (rd_T28 l i).f0.f1 (rd_T28 l i).f0.f2 && VU (rd_T28 l i).f1.f0 (rd_T28 l i).f1.f1 && VR (rd_T28 l i).f2 (rd_T28 l i).f3) = true := hw
      have ht := idx_take (line_Find.p (rd_T28 l i).f0.f0 (rd_T28 l i).f0.f1 (rd_T28 l i).f0.f2) z28 l i.toNat (by omega) (find_self _)
      have step : ∀ k, line_Valid.l0 (k + 1) l l (l.length : Int) i = if Xw.idx_ (line_Find.p (rd_T28 l i).f0.f0 (rd_T28 l i).f0.f1 (rd_T28 l i).f0.f2) (l.take i.toNat) ≥ 0 then some false else line_Valid.l0 k l l (l.length : Int) (wrap64 (i + 1)) := fun k => by
        simp only [line_Valid.l0]
        rw [if_pos (by omega), if_pos h0, if_pos (by omega), vw1, e]
        simp only [Option.bind_some, if_true]
        rw [if_pos (by omega)]
        rfl
      rw [← rd28]
      by_cases hf : Xw.idx_ (line_Find.p (rd_T28 l i).f0.f0 (rd_T28 l i).f0.f1 (rd_T28 l i).f0.f2) l = (i.toNat : Int)
      · refine (Al.succ (ih (i + 1) (by omega) (by omega)) fun k => ?_).eq ?_
        · rw [step, if_neg (fun h => ht.1 h hf), w64_id (by omega) (by omega)]
        · rw [show (i + 1).toNat = i.toNat + 1 by omega]
          simp [hf]
      · refine (Al.succV fun k => ?_).eq (r := false) ?_
        · rw [step, if_pos (ht.2 hf)]
        · rw [decide_eq_false hf]
          simp
theorem lvalid (l : List S28) (hl : l.length ≤ 140737488355328) : Al (fun k => line_Valid.f k l) (VL l) := by
  unfold VL
  by_cases h : l.length ≤ 8
  · refine ((lvalid_l0 l hl l.length 0 (by omega) (by omega)).congr fun k => ?_).eq ?_
    · unfold line_Valid.f
      rw [if_neg (by omega)]
    · simp [h]
  · refine (Al.val fun k => ?_).eq (r := false) ?_
    · unfold line_Valid.f
      rw [if_pos (by omega)]
    · simp [h]
end Go.Proofs.Ytgomhoolipfkmaa.Pl

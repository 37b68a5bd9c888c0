import Derived.Test.YtgomhoolipfkmaaPv
import Derived.Test.YtgomhoolipfkmaaY5
namespace Go.Proofs.Ytgomhoolipfkmaa.Pl
open Go.RowKit Go.Proofs.Ytgomhoolipfkmaa.Y Go.Proofs.Ytgomhoolipfkmaa.Pa Go.Proofs.YtgomhoolipfkmaaW.PrintWords Go.Proofs.YtgomhoolipfkmaaW.PrintLast Go.Proofs.YtgomhoolipfkmaaW.PrintMore
set_option linter.unusedVariables false
set_option linter.unusedSimpArgs false
/-! Where a claim is put, and what that does. -/
def bump (x : S28) : S28 := ⟨x.f0, x.f1, x.f2, wrap64 (x.f3 + 1)⟩
/-- Where it comes to stand, out of i that are ahead. -/
def pos (l : List S28) (pr : Int) : Nat → Nat
  | 0 => 0
  | i + 1 => if (l.getD i z28).f2 < pr ∧ (l.getD i z28).f3 < 3 then pos l pr i else i + 1
theorem pos_le (l : List S28) (pr : Int) : ∀ i, pos l pr i ≤ i
  | 0 => Nat.le_refl _
  | i + 1 => by
    simp only [pos]
    split
    · exact Nat.le_succ_of_le (pos_le l pr i)
    · exact Nat.le_refl _
def put (l : List S28) (w : S28) : List S28 := l.take (pos l w.f2 l.length) ++ w :: (l.drop (pos l w.f2 l.length)).map bump
theorem put_len (l : List S28) (w : S28) : (put l w).length = l.length + 1 := by
  have := pos_le l w.f2 l.length
  simp [put]
  omega
/-! The reference. -/
theorem set_cut (out : List S28) (i : Nat) (x : S28) (h : i < out.length) : out.set i x = out.take i ++ x :: out.drop (i + 1) := by
  rw [List.set_eq_take_append_cons_drop, if_pos h]
theorem getD_take (l out : List S28) (n j : Nat) (hj : j < n) (h : out.take n = l.take n) : out.getD j z28 = l.getD j z28 := by
  have := congrArg (fun q : List S28 => q.getD j z28) h
  simpa [List.getD_eq_getElem?_getD, List.getElem?_take, hj] using this
theorem take_less {l out : List S28} {n m : Nat} (hm : m ≤ n) (h : out.take n = l.take n) : out.take m = l.take m := by
  have := congrArg (fun q : List S28 => q.take m) h
  simpa [List.take_take, Nat.min_eq_left hm] using this
/-! The program's. -/
theorem lins_done (l out : List S28) (w : S28) (n : Nat) (hn : n ≤ l.length) (ho : out.length = l.length + 1) (ht : out.take n = l.take n) (hd : out.drop (n + 1) = (l.drop n).map bump) : out.set n w = l.take n ++ w :: (l.drop n).map bump := by
  rw [set_cut out n w (by omega), ht, hd]
theorem lins_l0 (l : List S28) (hl : l.length < 1000) (w : S28) : ∀ (n : Nat) (out : List S28), n ≤ l.length → out.length = l.length + 1 → out.take n = l.take n → out.drop (n + 1) = (l.drop n).map bump →
    Al (fun k => line_Insert.l0 k out (n : Int) w.f0.f0 w.f0.f1 w.f0.f2 w.f1.f0 w.f1.f1 w.f2 w.f3) (l.take (pos l w.f2 n) ++ w :: (l.drop (pos l w.f2 n)).map bump, (pos l w.f2 n : Int), 0)
  | 0, out, hn, ho, ht, hd => by
    refine (Al.succV fun k => ?_).eq (r := (out.set 0 w, 0, 0)) ?_
    · simp only [line_Insert.l0]
      rw [if_neg (by omega), if_pos (by omega), if_pos (by omega)]
      rfl
    · rw [lins_done l out w 0 hn ho ht hd]
      rfl
  | n + 1, out, hn, ho, ht, hd => by
    have e1 : wrap64 (((n + 1 : Nat) : Int) - 1) = n := by rw [w64_id (by omega) (by omega)]; omega
    have hp : rd_T28 out (n : Int) = l.getD n z28 := by rw [rd28, Int.toNat_natCast]; exact getD_take l out (n + 1) n (by omega) ht
    simp only [pos]
    have fin : out.set (n + 1) w = l.take (n + 1) ++ w :: (l.drop (n + 1)).map bump := lins_done l out w (n + 1) hn ho ht hd
    have step : ∀ k, line_Insert.l0 (k + 1) out ((n + 1 : Nat) : Int) w.f0.f0 w.f0.f1 w.f0.f2 w.f1.f0 w.f1.f1 w.f2 w.f3 = if (l.getD n z28).f2 < w.f2 ∧ (l.getD n z28).f3 < 3 then line_Insert.l0 k ((out.set (n + 1) (l.getD n z28)).set (n + 1) (bump (l.getD n z28))) (n : Int) w.f0.f0 w.f0.f1 w.f0.f2 w.f1.f0 w.f1.f1 w.f2 w.f3 else some (out.set (n + 1) w, ((n + 1 : Nat) : Int), 0) := fun k => by
      have hg : rd_T28 (out.set (n + 1) (l.getD n z28)) ((n + 1 : Nat) : Int) = l.getD n z28 := by
        rw [rd28, Int.toNat_natCast, List.getD_eq_getElem?_getD, List.getElem?_set_self (by omega)]
        rfl
      simp only [line_Insert.l0]
      rw [if_pos (by omega), e1, if_pos (by omega), if_pos (by omega), hp]
      unfold line_meet.f
      by_cases c1 : (l.getD n z28).f2 < w.f2
      · by_cases c2 : (l.getD n z28).f3 < 3
        · rw [if_pos c1, if_pos c2, if_pos (show (l.getD n z28).f2 < w.f2 ∧ (l.getD n z28).f3 < 3 from ⟨c1, c2⟩)]
          simp only [Option.bind_some, if_true]
          rw [if_pos (by omega), if_pos (by omega), s28_eta, Int.toNat_natCast, hg]
          rfl
        · rw [if_pos c1, if_neg c2, if_neg (show ¬ ((l.getD n z28).f2 < w.f2 ∧ (l.getD n z28).f3 < 3) from fun h => c2 h.2)]
          simp only [Option.bind_some]
          rw [if_neg (by decide), if_pos (by omega), if_pos (by omega), s28_eta, Int.toNat_natCast]
      · rw [if_neg c1, if_neg (show ¬ ((l.getD n z28).f2 < w.f2 ∧ (l.getD n z28).f3 < 3) from fun h => c1 h.1)]
        simp only [Option.bind_some]
        rw [if_neg (by decide), if_pos (by omega), if_pos (by omega), s28_eta, Int.toNat_natCast]
    by_cases c : (l.getD n z28).f2 < w.f2 ∧ (l.getD n z28).f3 < 3
    · rw [if_pos c]
      refine Al.succ (lins_l0 l hl w n ((out.set (n + 1) (l.getD n z28)).set (n + 1) (bump (l.getD n z28))) (by omega) (by simp [ho]) ?_ ?_) fun k => by rw [step, if_pos c]
      · rw [List.set_set, List.take_set_of_le (Nat.le_succ n)]
        exact take_less (Nat.le_succ n) ht
      · rw [List.set_set, set_cut out (n + 1) _ (by omega), List.drop_append_of_le_length (by simp; omega), hd, List.drop_of_length_le (by simp; omega), drop_cons_getD z28 l n (by omega)]
        simp
    · rw [if_neg c]
      refine (Al.succV fun k => ?_).eq (r := (out.set (n + 1) w, ((n + 1 : Nat) : Int), 0)) ?_
      · rw [step, if_neg c]
      · rw [fin]
/-! What both answer. -/
def ins (l : List S28) (w : S28) : List S28 × Int × Int :=
  if VL l = true then (if VW w = true ∧ w.f3 = 0 then (if 0 ≤ Xw.idx_ (line_Find.p w.f0.f0 w.f0.f1 w.f0.f2) l then ([], 0, 11) else if l.length = 8 then ([], 0, 4) else (put l w, (pos l w.f2 l.length : Int), 0)) else ([], 0, 1)) else ([], 0, 2)
theorem vw_eq (w : S28) : (VP w.f0.f0 w.f0.f1 w.f0.f2 && VU w.f1.f0 w.f1.f1 && VR w.f2 w.f3) = VW w := rfl
theorem lins (l : List S28) (hl : l.length < 1000) (w : S28) : Al (fun k => line_Insert.f k l w.f0.f0 w.f0.f1 w.f0.f2 w.f1.f0 w.f1.f1 w.f2 w.f3) (ins l w) := by
  unfold ins
  refine Al.bindE (fun k => rfl) (lvalid l (by omega)) ?_
  by_cases h1 : VL l = true
  · rw [if_pos h1, h1]
    refine Al.congr (g := fun k => if VW w = true then line_Insert.j0 k l (w.f3 != 0) w.f0.f0 w.f0.f1 w.f0.f2 w.f1.f0 w.f1.f1 w.f2 w.f3 else line_Insert.j0 k l true w.f0.f0 w.f0.f1 w.f0.f2 w.f1.f0 w.f1.f1 w.f2 w.f3) ?_ (fun k => by rw [if_pos rfl, vw1, vw_eq]; rfl)
    have hbad : Al (fun k => line_Insert.j0 k l true w.f0.f0 w.f0.f1 w.f0.f2 w.f1.f0 w.f1.f1 w.f2 w.f3) ([], 0, 1) := Al.succV fun k => by simp only [line_Insert.j0]; rfl
    by_cases h2 : VW w = true
    · by_cases h3 : w.f3 = 0
      · rw [if_pos ⟨h2, h3⟩]
        refine Al.congr (g := fun k => line_Insert.j0 k l false w.f0.f0 w.f0.f1 w.f0.f2 w.f1.f0 w.f1.f1 w.f2 w.f3) ?_ (fun k => by rw [if_pos h2, h3]; rfl)
        by_cases h4 : 0 ≤ Xw.idx_ (line_Find.p w.f0.f0 w.f0.f1 w.f0.f2) l
        · rw [if_pos h4]
          refine Al.succV fun k => ?_
          simp only [line_Insert.j0, line_Find.f, Option.bind_some]
          rw [if_neg (by simp), if_pos h4]
        · rw [if_neg h4]
          by_cases h5 : l.length = 8
          · rw [if_pos h5]
            refine Al.succV fun k => ?_
            simp only [line_Insert.j0, line_Find.f, Option.bind_some]
            rw [if_neg (by simp), if_neg h4, if_pos (by omega)]
          · rw [if_neg h5]
            refine Al.succ (lins_l0 l hl w l.length (l ++ [w]) (Nat.le_refl _) (by simp) (by simp) (by simp)) fun k => ?_
            simp only [line_Insert.j0, line_Find.f, Option.bind_some, api_Wait_35.f]
            rw [if_neg (by simp), if_neg h4, if_neg (by omega), if_pos (by omega)]
            simp only [Option.bind_some]
            rw [if_pos (by simp; omega)]
      · rw [if_neg (fun h => h3 h.2)]
        exact hbad.congr fun k => by rw [if_pos h2, show (w.f3 != 0) = true by simpa using h3]
    · rw [if_neg (fun h => h2 h.1)]
      exact hbad.congr fun k => by rw [if_neg h2]
  · rw [if_neg h1]
    refine Al.val fun k => ?_
    rw [if_neg h1]
end Go.Proofs.Ytgomhoolipfkmaa.Pl

/- An insertion keeps the others in their order, and removing the new claim gives back the line but for Passed. -/
import Derived.Test.YtgomhoolipfkmaaPi
import Derived.Test.YtgomhoolipfkmaaPq
import Derived.Test.YtgomhoolipfkmaaYQLineKeeps
namespace Go.Proofs.Ytgomhoolipfkmaa.Pure
open Go.RowKit Go.Proofs.Ytgomhoolipfkmaa.Y Go.Proofs.Ytgomhoolipfkmaa.Pa Go.Proofs.Ytgomhoolipfkmaa.Pl
theorem lins_any (l : List S28) (hl : l.length ≤ 140737488355328) (w : S28) : Al (fun k => line_Insert.f k l w.f0.f0 w.f0.f1 w.f0.f2 w.f1.f0 w.f1.f1 w.f2 w.f3) (ins l w) := by
  by_cases h : l.length < 1000
  · exact lins l h w
  · have hv : VL l = false := by unfold VL; rw [decide_eq_false (by omega)]; rfl
    have e : ins l w = ([], 0, 2) := by unfold ins; rw [hv]; rfl
    rw [e]
    refine Al.bindE (fun k => rfl) (lvalid l hl) (Al.val fun k => ?_)
    rw [hv]
    rfl
theorem vl_get (l : List S28) : ∀ (d i : Nat), vl l d i = true → ∀ j, i ≤ j → j < i + d → VW (l.getD j z28) = true
  | 0, i, _, j, h1, h2 => by omega
  | d + 1, i, h, j, h1, h2 => by
    simp only [vl, Bool.and_eq_true] at h
    by_cases e : j = i
    · subst e; exact h.1.1
    · exact vl_get l d (i + 1) h.2 j (by omega) (by omega)
theorem vw_f3 {x : S28} (h : VW x = true) : 0 ≤ x.f3 ∧ x.f3 ≤ 3 := by
  unfold VW VR at h
  simp only [Bool.and_eq_true, decide_eq_true_eq] at h
  exact ⟨h.2.1.2, h.2.2⟩
theorem p_bump (a b c : Int) (x : S28) : line_Find.p a b c (bump x) = line_Find.p a b c x := rfl
theorem idx_all (p : S28 → Bool) (l : List S28) (h : Xw.idx_ p l = -1) : ∀ x ∈ l, p x = false := by
  have := List.filter_eq_self.1 (Xw.idx_none p l h)
  intro x hx
  simpa using this x hx
def back (l : List S28) (n : Nat) : List S28 := l.take n ++ (l.drop n).map bump
theorem back_len (l : List S28) (n : Nat) (h : n ≤ l.length) : (back l n).length = l.length := by simp [back]; omega
theorem back_get (l : List S28) (n i : Nat) (hn : n ≤ l.length) (hi : i < l.length) : (back l n).getD i z28 = if i < n then l.getD i z28 else bump (l.getD i z28) := by
  unfold back
  simp only [List.getD_eq_getElem?_getD]
  by_cases h : i < n
  · rw [if_pos h, List.getElem?_append_left (by simp; omega), List.getElem?_take_of_lt h]
  · rw [if_neg h, List.getElem?_append_right (by simp; omega)]
    simp only [List.length_take, Nat.min_eq_left hn, List.getElem?_map, List.getElem?_drop]
    rw [show n + (i - n) = i by omega, List.getElem?_eq_getElem hi]
    rfl
theorem rest_put (l : List S28) (w : S28) (h : Xw.idx_ (line_Find.p w.f0.f0 w.f0.f1 w.f0.f2) l = -1) : rest w.f0.f0 w.f0.f1 w.f0.f2 (put l w) = back l (pos l w.f2 l.length) := by
  have ha := idx_all _ l h
  unfold rest put back
  rw [List.filter_append, List.filter_cons, find_self]
  congr 1
  · refine List.filter_eq_self.2 fun x hx => ?_
    rw [ha x (List.mem_of_mem_take hx)]; rfl
  · simp only [Bool.not_true, Bool.false_eq_true, if_false]
    refine List.filter_eq_self.2 fun x hx => ?_
    obtain ⟨y, hy, rfl⟩ := List.mem_map.1 hx
    rw [p_bump, ha y (List.mem_of_mem_drop hy)]; rfl
theorem find_put (l : List S28) (w : S28) (h : Xw.idx_ (line_Find.p w.f0.f0 w.f0.f1 w.f0.f2) l = -1) : Xw.idx_ (line_Find.p w.f0.f0 w.f0.f1 w.f0.f2) (put l w) = pos l w.f2 l.length := by
  have ha := idx_all _ l h
  have hp := pos_le l w.f2 l.length
  refine Xw.idx_hit _ z28 _ _ (by rw [put_len]; omega) (fun j hj => ?_) ?_
  · unfold put
    rw [List.getD_eq_getElem?_getD, List.getElem?_append_left (by simp; omega), List.getElem?_take_of_lt hj, List.getElem?_eq_getElem (by omega)]
    exact ha _ (List.getElem_mem _)
  · unfold put
    rw [List.getD_eq_getElem?_getD, List.getElem?_append_right (by simp; omega)]
    simp only [List.length_take, Nat.min_eq_left hp, Nat.sub_self, List.getElem?_cons_zero]
    exact find_self w
theorem keeps_l0 (l : List S28) (hl : l.length < 1000) (hv : ∀ j, j < l.length → VW (l.getD j z28) = true) (n : Nat) (hn : n ≤ l.length) (d : Nat) : ∀ i : Int, 0 ≤ i → i + d = l.length → Al (fun k => clusterlockslaw11_LineKeeps.l0 k l (n : Int) (back l n) i) true := by
  induction d with
  | zero =>
    intro i h0 h1
    refine Al.succV fun k => ?_
    simp only [clusterlockslaw11_LineKeeps.l0]
    rw [if_neg (by omega)]
  | succ d ih =>
    intro i h0 h1
    refine Al.succ (ih (i + 1) (by omega) (by omega)) fun k => ?_
    have hf := vw_f3 (hv i.toNat (by omega))
    have hb := back_get l n i.toNat hn (by omega)
    rw [← rd28, ← rd28] at hb
    have hbl := back_len l n hn
    rw [← rd28] at hf
    simp only [clusterlockslaw11_LineKeeps.l0]
    rw [if_pos (by omega), if_pos h0, if_pos (by omega), w64_id (n := i + 1) (by omega) (by omega)]
    by_cases hi : i.toNat < n
    · rw [if_pos hi] at hb
      rw [hb, if_neg (by simp), if_pos rfl, if_neg]
      rw [decide_eq_false (show ¬ ((rd_T28 l i).f3 > (rd_T28 l i).f3) by omega), decide_eq_false (show ¬ (i ≥ (n : Int)) by omega)]
      decide
    · rw [if_neg hi] at hb
      have e3 : (rd_T28 (back l n) i).f3 = wrap64 ((rd_T28 l i).f3 + 1) := by rw [hb]; rfl
      have e4 : wrap64 ((rd_T28 l i).f3 + 1) = (rd_T28 l i).f3 + 1 := w64_id (by omega) (by omega)
      have e0 : (rd_T28 (back l n) i).f0 = (rd_T28 l i).f0 := by rw [hb]; rfl
      have e1 : (rd_T28 (back l n) i).f1 = (rd_T28 l i).f1 := by rw [hb]; rfl
      have e2 : (rd_T28 (back l n) i).f2 = (rd_T28 l i).f2 := by rw [hb]; rfl
      rw [e0, e1, e2, e3, if_neg (by simp), if_neg (by omega), if_pos rfl, if_neg]
      rw [decide_eq_true (show wrap64 ((rd_T28 l i).f3 + 1) > (rd_T28 l i).f3 by omega), decide_eq_true (show i ≥ (n : Int) by omega)]
      decide
theorem LineKeeps : clusterlockslaw11_LineKeeps.PureX := by
  intro l w hl0 hb hw
  have hl : l.length ≤ 140737488355328 := by omega
  clear hb
  refine Al.ex (r := true) ?_
  refine Al.bindE (fun k => rfl) (lins_any l hl w) ?_
  have bad : ∀ e : Int, e ≠ 0 → ins l w = ([], 0, e) → Al (fun k => if (ins l w).2.2 = 0 then ((line_Remove.f (ins l w).1 w.f0.f0 w.f0.f1 w.f0.f2).bind fun bt211 => ((clusterlockslaw11_awake.f k).bind fun t215 => (if t215 = true then (if bt211.2 = true then (if (bt211.1.length : Int) = (l.length : Int) then ((line_Find.f (ins l w).1 w.f0.f0 w.f0.f1 w.f0.f2).bind fun t216 => (clusterlockslaw11_LineKeeps.j0 k l (ins l w).2.1 bt211.1 (t216 != (ins l w).2.1))) else (clusterlockslaw11_LineKeeps.j0 k l (ins l w).2.1 bt211.1 true)) else (clusterlockslaw11_LineKeeps.j0 k l (ins l w).2.1 bt211.1 true)) else (clusterlockslaw11_LineKeeps.j0 k l (ins l w).2.1 bt211.1 true)))) else ((clusterlockslaw11_awake.f k).bind fun t210 => (if t210 = true then (if ((ins l w).1.length : Int) = 0 then (some ((ins l w).2.1 == 0)) else (none)) else (none)))) true := by
    intro e he h
    rw [h]
    refine Al.bindE (f := fun k t => if t = true then (if (([] : List S28).length : Int) = 0 then some ((0 : Int) == 0) else none) else none) (fun k => by rw [if_neg he]) awake_al (Al.val fun k => rfl)
  by_cases h1 : VL l = true
  · by_cases h2 : VW w = true ∧ w.f3 = 0
    · by_cases h3 : 0 ≤ Xw.idx_ (line_Find.p w.f0.f0 w.f0.f1 w.f0.f2) l
      · exact bad 11 (by decide) (by unfold ins; rw [if_pos h1, if_pos h2, if_pos h3])
      · by_cases h4 : l.length = 8
        · exact bad 4 (by decide) (by unfold ins; rw [if_pos h1, if_pos h2, if_neg h3, if_pos h4])
        · have hi : ins l w = (put l w, (pos l w.f2 l.length : Int), 0) := by unfold ins; rw [if_pos h1, if_pos h2, if_neg h3, if_neg h4]
          have h1' := h1
          unfold VL at h1'
          simp only [Bool.and_eq_true, decide_eq_true_eq] at h1'
          have hidx : Xw.idx_ (line_Find.p w.f0.f0 w.f0.f1 w.f0.f2) l = -1 := by
            have := Xw.idx_ge (line_Find.p w.f0.f0 w.f0.f1 w.f0.f2) l
            omega
          have hp := pos_le l w.f2 l.length
          have hpl := put_len l w
          have hbl := back_len l _ hp
          rw [hi]
          refine Al.bindE (g := fun k => clusterlockslaw11_awake.f k) (f := fun k t => if t = true then clusterlockslaw11_LineKeeps.j0 k l (pos l w.f2 l.length : Int) (back l (pos l w.f2 l.length)) false else clusterlockslaw11_LineKeeps.j0 k l (pos l w.f2 l.length : Int) (back l (pos l w.f2 l.length)) true) (fun k => ?_) awake_al ?_
          · simp only [if_true]
            rw [lremove (put l w) (by omega), rest_put l w hidx]
            simp only [Option.bind_some]
            rw [decide_eq_true (by omega)]
            simp only [if_true]
            rw [if_pos (by omega)]
            simp only [line_Find.f, Option.bind_some, find_put l w hidx, bne_self_eq_false]
          · simp only [if_true]
            refine Al.succ (keeps_l0 l (by omega) (fun j hj => vl_get l l.length 0 h1'.2 j (by omega) (by omega)) _ hp l.length 0 (by omega) (by omega)) fun k => ?_
            simp only [clusterlockslaw11_LineKeeps.j0]
            rw [if_neg (by simp)]
    · exact bad 1 (by decide) (by unfold ins; rw [if_pos h1, if_neg h2])
  · exact bad 2 (by decide) (by unfold ins; rw [if_neg h1])
end Go.Proofs.Ytgomhoolipfkmaa.Pure

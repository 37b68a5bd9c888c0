import Derived.Test.YtefbcebpokoinaaPr
import Derived.Test.YtefbcebpokoinaaY9
namespace Go.Proofs.Ytefbcebpokoinaa.Ph
open Go.RowKit Go.Proofs.Ytefbcebpokoinaa.Y Go.Proofs.Ytefbcebpokoinaa.Pa Go.Proofs.Ytefbcebpokoinaa.Ps Go.Proofs.Ytefbcebpokoinaa.Pv Go.Proofs.Ytefbcebpokoinaa.Pg Go.Proofs.Ytefbcebpokoinaa.Pr Go.Proofs.YtefbcebpokoinaaW.PrintWords Go.Proofs.YtefbcebpokoinaaW.PrintLast Go.Proofs.YtefbcebpokoinaaW.PrintMore
set_option linter.unusedVariables false
set_option linter.unusedSimpArgs false
/-! When an expression holds. -/
def lk : List S25 → List Bool → S25 → Bool
  | [], _, _ => false
  | b :: r, s, a => if eqA b a = true then s.getD 0 false else lk r s.tail a
mutual
def hv : S28 → List S25 → List Bool → Bool
  | ⟨k, a, l⟩, x, s => if k = 0 then lk x s a else decide ((hvL l x s : Int) ≥ k)
def hvL : List S28 → List S25 → List Bool → Nat
  | [], _, _ => 0
  | e :: r, x, s => (if hv e x s = true then 1 else 0) + hvL r x s
end
theorem hvL_le : ∀ (l : List S28) (x : List S25) (s : List Bool), hvL l x s ≤ l.length
  | [], x, s => by simp [hvL]
  | e :: r, x, s => by
    have := hvL_le r x s
    simp only [hvL, List.length_cons]
    split <;> omega
theorem rdb (s : List Bool) (i : Nat) : rdOf false s (i : Int) = s.getD i false := by
  show s.getD _ false = _
  rw [Int.toNat_natCast]
theorem tail_drop {α : Type} (s : List α) (i : Nat) : (s.drop i).tail = s.drop (i + 1) := by rw [List.tail_drop]
theorem drop_get (s : List Bool) (i : Nat) : (s.drop i).getD 0 false = s.getD i false := by
  rw [List.getD_eq_getElem?_getD, List.getD_eq_getElem?_getD, List.getElem?_drop, Nat.add_zero]
theorem past {s : List Bool} {i : Nat} (h : s.length ≤ i) : s.getD i false = false := by
  rw [List.getD_eq_getElem?_getD, List.getElem?_eq_none h]
  rfl
theorem has_loop (x y : List S25) (s t : List Bool) (a : S25) (hx : x.length ≤ 8) : ∀ (rest : List S25) (i : Nat), x.drop i = rest → Al (fun k => formula_index_has.l0 k x (x.length : Int) (i : Int) y s a.f0 a.f1.f0 a.f1.f1) (lk rest (s.drop i) a)
  | [], i, h => Al.succV fun k => by
    have := drop_nil_le h
    simp only [formula_index_has.l0]
    rw [if_neg (by omega)]
    rfl
  | b :: r, i, h => by
    obtain ⟨hlt, hat, hdr⟩ := drop_at h
    have ih := has_loop x y s t a hx r (i + 1) hdr
    have e : ∀ k, formula_index_has.l0 (k + 1) x (x.length : Int) (i : Int) y s a.f0 a.f1.f0 a.f1.f1 = if eqA b a = true then some (s.getD i false) else formula_index_has.l0 k x (x.length : Int) (i + 1 : Nat) y s a.f0 a.f1.f0 a.f1.f1 := fun k => by
      simp only [formula_index_has.l0]
      rw [if_pos (by omega), if_pos (by omega), if_pos (by omega), rd25 hat, w64_id (by omega) (by omega), rdb]
      by_cases hs : i < s.length
      · rw [if_pos (show (i : Int) < (s.length : Int) by omega)]
        rfl
      · rw [if_neg (show ¬ (i : Int) < (s.length : Int) by omega), past (by omega)]
        rfl
    by_cases hs : eqA b a = true
    · exact Al.succV fun k => by rw [e, if_pos hs]; simp only [lk]; rw [if_pos hs, drop_get]
    · exact Al.succ (Al.eq ih (by simp only [lk]; rw [if_neg hs, tail_drop])) (fun k => by rw [e, if_neg hs])
def vf (k : Nat) (e : S28) (x : List S25) (s : List Bool) : Option Bool := formula_value.f k e.f0 e.f1.f0 e.f1.f1.f0 e.f1.f1.f1 e.f2 x s
def VP (x : List S25) (s : List Bool) (e : S28) : Prop := nodes e ≤ 24 → Al (fun k => vf k e x s) (hv e x s)
def VQ (x : List S25) (s : List Bool) (l : List S28) : Prop := ∀ (xs : List S28) (i n : Nat), xs.drop i = l → xs.length ≤ 24 → nodesL l ≤ 24 → n ≤ i → ∀ (a0 : Int) (a1 : ByteArray) (a2 a3 : Int) (l0 : List S28), Al (fun k => formula_value.l0 k (n : Int) xs (xs.length : Int) (i : Int) x s a0 a1 a2 a3 l0) (decide (((n + hvL l x s : Nat) : Int) ≥ a0))
theorem holds_all (x : List S25) (s : List Bool) (hx : x.length ≤ 8) : (∀ e, VP x s e) ∧ (∀ l, VQ x s l) := by
  refine ind ?_ ?_ ?_
  · intro k0 a l hl hn
    have hn2 : nodesL l ≤ 24 := by simp only [nodes] at hn; omega
    by_cases h0 : k0 = 0
    · subst h0
      have e : hv ⟨0, a, l⟩ x s = lk x s a := by simp [hv]
      rw [e]
      refine Al.succ (Al.congr (g := fun k => (formula_index_has.f k x s a.f0 a.f1.f0 a.f1.f1).bind fun t => some t) (Al.bind (has_loop x x s s a hx x 0 rfl) (Al.val fun k => rfl)) fun k => rfl) fun k => ?_
      simp only [vf, formula_value.f]
      rw [if_pos trivial]
    · have e : hv ⟨k0, a, l⟩ x s = decide ((hvL l x s : Int) ≥ k0) := by simp [hv, h0]
      rw [e]
      have hA := hl l 0 0 rfl (len_lt hn2) hn2 (Nat.le_refl _) k0 a.f0 a.f1.f0 a.f1.f1 l
      rw [Nat.zero_add] at hA
      refine Al.succ hA fun k => ?_
      simp only [vf, formula_value.f]
      rw [if_neg h0]
      rfl
  · intro xs i n hi h24 hn hni a0 a1 a2 a3 l0
    have := drop_nil_le hi
    refine Al.succV fun k => ?_
    simp only [formula_value.l0, hvL]
    rw [if_neg (by omega)]
    rfl
  · intro e r he hr xs i n hi h24 hn hni a0 a1 a2 a3 l0
    obtain ⟨hlt, hat, hdr⟩ := drop_at hi
    simp only [nodesL] at hn
    have hA := he (by omega)
    have s1 : ∀ k, formula_value.l0 (k + 1) (n : Int) xs (xs.length : Int) (i : Int) x s a0 a1 a2 a3 l0 = (vf k e x s).bind fun t => formula_value.l0 k (((n + (if t = true then 1 else 0) : Nat)) : Int) xs (xs.length : Int) (i + 1 : Nat) x s a0 a1 a2 a3 l0 := fun k => by
      simp only [formula_value.l0]
      rw [if_pos (by omega), if_pos (by omega), if_pos (by omega), rd28 hat, w64_id (n := (i : Int) + 1) (by omega) (by omega), w64_id (n := (n : Int) + 1) (by omega) (by omega)]
      show (vf k e x s).bind _ = _
      congr 1
      funext t
      cases t <;> rfl
    have hC := hr xs (i + 1) (n + (if hv e x s = true then 1 else 0)) hdr h24 (by omega) (by split <;> omega) a0 a1 a2 a3 l0
    have ee : n + (if hv e x s = true then 1 else 0) + hvL r x s = n + hvL (e :: r) x s := by simp only [hvL]; omega
    rw [ee] at hC
    exact Al.succB s1 hA hC
theorem fh (e : S28) (x : List S25) (s : List Bool) (hx : x.length ≤ 8) (hn : nodes e ≤ 24) : Al (fun k => formula_holds.f k e.f0 e.f1.f0 e.f1.f1.f0 e.f1.f1.f1 e.f2 x s) (hv e x s) := Al.bindE (fun k => rfl) ((holds_all x s hx).1 e hn) (Al.val fun k => rfl)
theorem ats_len (e : S28) : (ats e).length ≤ 8 := by
  by_cases h : valid e
  · exact (ats_valid h).2.1
  · rw [ats_invalid h]
    simp
theorem ats_pos {e : S28} (h : valid e) : 0 < (ats e).length := List.length_pos_iff.mpr (ats_valid h).1
/-- Holds. -/
def hd (e : S28) (s : List Bool) : Bool := decide (valid e) && hv e (ats e) s
theorem holds1 (e : S28) (s : List Bool) : Al (fun k => formula_Holds.f k e.f0 e.f1.f0 e.f1.f1.f0 e.f1.f1.f1 e.f2 s) (hd e s) := by
  refine Al.bindE (fun k => rfl) (atoms1 e) ?_
  unfold hd
  by_cases h : valid e
  · have := ats_pos h
    rw [decide_eq_true h, Bool.true_and]
    exact Al.congr (Al.bind (fh e (ats e) s (ats_len e) h.1.2) (Al.val fun k => rfl)) fun k => if_pos (by omega)
  · rw [decide_eq_false h, Bool.false_and]
    exact Al.val fun k => by rw [if_neg (by rw [ats_invalid h]; simp)]
/-! Which atoms are alive. -/
def alv (n : Nat) (d : List Bool) : List Bool := (List.range n).map fun i => !(d.getD i false)
theorem alv_len (n : Nat) (d : List Bool) : (alv n d).length = n := by simp [alv]
theorem alv_get {n : Nat} {d : List Bool} {i : Nat} (h : i < n) : (alv n d)[i]'(by rw [alv_len]; exact h) = !(d.getD i false) := by simp [alv]
def parB (L : List Bool) (i : Nat) : List Bool := L.take i ++ List.replicate (L.length - i) false
theorem parB_len (L : List Bool) {i : Nat} (h : i ≤ L.length) : (parB L i).length = L.length := by
  unfold parB
  rw [List.length_append, List.length_take, List.length_replicate]
  omega
theorem parB_zero (L : List Bool) : parB L 0 = List.replicate L.length false := by simp [parB]
theorem parB_all (L : List Bool) : parB L L.length = L := by simp [parB]
theorem parB_set (L : List Bool) {i : Nat} (h : i < L.length) : (parB L i).set i L[i] = parB L (i + 1) := by
  unfold parB
  rw [List.set_append_right _ _ (by rw [List.length_take]; omega), List.length_take, Nat.min_eq_left (by omega), Nat.sub_self]
  obtain ⟨m, hm⟩ : ∃ m, L.length - i = m + 1 := ⟨L.length - i - 1, by omega⟩
  rw [hm, List.replicate_succ, List.set_cons_zero, show L.length - (i + 1) = m by omega, List.take_add_one, List.getElem?_eq_getElem h]
  show _ = _ ++ [L[i]] ++ _
  rw [List.append_assoc]
  rfl
theorem alive1 (e : S28) (d : List Bool) (x : List S25) (hx : x.length ≤ 8) (hn : nodes e ≤ 24) : ∀ (m i : Nat), i + m = x.length → Al (fun k => formula_Hopeless.l0 k d x (parB (alv x.length d) i) (x.length : Int) (i : Int) e.f0 e.f1.f0 e.f1.f1.f0 e.f1.f1.f1 e.f2) (!hv e x (alv x.length d))
  | 0, i, h => by
    obtain rfl : i = x.length := h
    have e2 : parB (alv x.length d) x.length = alv x.length d := by
      have := parB_all (alv x.length d)
      rwa [alv_len] at this
    rw [e2]
    refine Al.succB (g := fun k => formula_holds.f k e.f0 e.f1.f0 e.f1.f1.f0 e.f1.f1.f1 e.f2 x (alv x.length d)) (f := fun k t => some (!t)) (fun k => ?_) (fh e x _ hx hn) (Al.val fun k => rfl)
    simp only [formula_Hopeless.l0]
    rw [if_neg (by omega)]
  | m + 1, i, h => by
    have hl : (parB (alv x.length d) i).length = x.length := by rw [parB_len _ (by rw [alv_len]; omega), alv_len]
    have hs : (parB (alv x.length d) i).set i (!(d.getD i false)) = parB (alv x.length d) (i + 1) := by
      rw [← parB_set (alv x.length d) (by rw [alv_len]; omega), alv_get (by omega)]
    refine Al.succ (alive1 e d x hx hn m (i + 1) (by omega)) fun k => ?_
    simp only [formula_Hopeless.l0]
    rw [hl, if_pos (by omega), w64_id (n := (i : Int) + 1) (by omega) (by omega), Int.toNat_natCast, rdb]
    by_cases hd : (i : Int) ≥ (d.length : Int)
    · rw [if_pos hd, if_pos (by omega), if_pos (by omega)]
      rw [past (by omega)] at hs
      show formula_Hopeless.l0 k d x ((parB (alv x.length d) i).set i true) _ _ _ _ _ _ _ = _
      rw [show true = !false from rfl, hs]
      rfl
    · rw [if_neg hd, if_pos (by omega), if_pos (by omega), if_pos (by omega), hs]
      rfl
/-- Hopeless. -/
def hl (e : S28) (d : List Bool) : Bool := decide (valid e) && !hv e (ats e) (alv (ats e).length d)
theorem rep_part (n : Nat) (d : List Bool) : List.replicate ((n : Int)).toNat false = parB (alv n d) 0 := by rw [parB_zero, alv_len, Int.toNat_natCast]
theorem hopeless1 (e : S28) (d : List Bool) : Al (fun k => formula_Hopeless.f k e.f0 e.f1.f0 e.f1.f1.f0 e.f1.f1.f1 e.f2 d) (hl e d) := by
  refine Al.bindE (fun k => rfl) (atoms1 e) ?_
  have := ats_len e
  unfold hl
  by_cases h : valid e
  · have := ats_pos h
    rw [decide_eq_true h, Bool.true_and]
    refine Al.congr (alive1 e d (ats e) (ats_len e) h.1.2 _ 0 (Nat.zero_add _)) fun k => ?_
    rw [if_neg (by omega), if_pos (by omega), if_pos (by omega), rep_part _ d]
    rfl
  · rw [decide_eq_false h, Bool.false_and]
    exact Al.val fun k => by rw [if_pos (by rw [ats_invalid h]; simp)]
end Go.Proofs.Ytefbcebpokoinaa.Ph

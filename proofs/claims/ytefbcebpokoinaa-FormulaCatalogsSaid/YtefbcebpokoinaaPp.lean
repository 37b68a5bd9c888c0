import Derived.Test.YtefbcebpokoinaaPh
import Derived.Test.YtefbcebpokoinaaY9
namespace Go.Proofs.Ytefbcebpokoinaa.Pp
open Go.RowKit Go.Proofs.Ytefbcebpokoinaa.Y Go.Proofs.Ytefbcebpokoinaa.Pa Go.Proofs.Ytefbcebpokoinaa.Ps Go.Proofs.Ytefbcebpokoinaa.Pg Go.Proofs.Ytefbcebpokoinaa.Pr Go.Proofs.Ytefbcebpokoinaa.Ph Go.Proofs.YtefbcebpokoinaaW.PrintWords Go.Proofs.YtefbcebpokoinaaW.PrintLast Go.Proofs.YtefbcebpokoinaaW.PrintMore
set_option linter.unusedVariables false
set_option linter.unusedSimpArgs false
/-! What remains of a set. -/
/-- Places i - 1, .., 0 are tried. -/
def pr (e : S28) (x : List S25) : Nat → List Bool → List Bool
  | 0, o => o
  | i + 1, o => if o.getD i false = true then pr e x i ((o.set i false).set i (!hv e x (o.set i false))) else pr e x i o
theorem pr_len (e : S28) (x : List S25) : ∀ (i : Nat) (o : List Bool), (pr e x i o).length = o.length
  | 0, o => rfl
  | i + 1, o => by
    simp only [pr]
    split <;> rw [pr_len e x i] <;> simp
theorem prune_loop1 (e : S28) (x : List S25) (hx : x.length ≤ 8) (hn : nodes e ≤ 24) : ∀ (i : Nat) (o : List Bool), i ≤ o.length → o.length ≤ 8 → Al (fun k => formula_Prune.l0 k x o ((i : Int) - 1) e.f0 e.f1.f0 e.f1.f1.f0 e.f1.f1.f1 e.f2) (pr e x i o)
  | 0, o, hi, ho => Al.succV fun k => by
    simp only [formula_Prune.l0, pr]
    rw [if_neg (by omega)]
  | i + 1, o, hi, ho => by
    have e1 : ((i + 1 : Nat) : Int) - 1 = (i : Int) := by omega
    rw [e1]
    by_cases hb : o.getD i false = true
    · have e2 : pr e x (i + 1) o = pr e x i ((o.set i false).set i (!hv e x (o.set i false))) := by simp only [pr]; rw [if_pos hb]
      rw [e2]
      refine Al.succB (g := fun k => formula_holds.f k e.f0 e.f1.f0 e.f1.f1.f0 e.f1.f1.f1 e.f2 x (o.set i false)) (f := fun k t => formula_Prune.l0 k x ((o.set i false).set i (!t)) ((i : Int) - 1) e.f0 e.f1.f0 e.f1.f1.f0 e.f1.f1.f1 e.f2) (fun k => ?_) (fh e x _ hx hn) (prune_loop1 e x hx hn i _ (by simp; omega) (by simpa using ho))
      simp only [formula_Prune.l0]
      rw [if_pos (by omega), if_pos (by omega), if_pos (by omega), rdb, if_pos hb, Int.toNat_natCast, w64_id (by omega) (by omega)]
      rfl
    · have e2 : pr e x (i + 1) o = pr e x i o := by simp only [pr]; rw [if_neg hb]
      rw [e2]
      refine Al.succ (prune_loop1 e x hx hn i o (by omega) ho) fun k => ?_
      simp only [formula_Prune.l0]
      rw [if_pos (by omega), if_pos (by omega), if_pos (by omega), rdb, if_neg hb, w64_id (by omega) (by omega)]
/-- The set's first n places. -/
def fst (n : Nat) (s : List Bool) : List Bool := (List.range n).map fun i => s.getD i false
theorem fst_len (n : Nat) (s : List Bool) : (fst n s).length = n := by simp [fst]
theorem fst_get {n : Nat} {s : List Bool} {i : Nat} (h : i < n) : (fst n s)[i]'(by rw [fst_len]; exact h) = s.getD i false := by simp [fst]
theorem fst_q (n : Nat) (s : List Bool) (i : Nat) : (fst n s)[i]? = if i < n then some (s.getD i false) else none := by
  unfold fst
  rw [List.getElem?_map]
  by_cases h : i < n
  · rw [if_pos h, List.getElem?_range h]
    rfl
  · rw [if_neg h, List.getElem?_eq_none (by simp; omega)]
    rfl
theorem fst_getD {n : Nat} {s : List Bool} {i : Nat} (h : i < n) : (fst n s).getD i false = s.getD i false := by
  rw [List.getD_eq_getElem?_getD, fst_q, if_pos h]
  rfl
theorem copy_fst (n : Nat) (s : List Bool) : Xw.cpyL (List.replicate n false) s = fst n s := by
  apply List.ext_getElem?
  intro i
  rw [fst_q]
  show (s.take (List.replicate n false).length ++ (List.replicate n false).drop s.length)[i]? = _
  rw [List.length_replicate, List.getElem?_append, List.length_take, List.getElem?_drop, List.getElem?_replicate, List.getElem?_take]
  by_cases hi : i < n
  · rw [if_pos hi]
    by_cases hs : i < s.length
    · rw [if_pos (by omega), if_pos hi, List.getElem?_eq_getElem hs, List.getD_eq_getElem?_getD, List.getElem?_eq_getElem hs]
      rfl
    · rw [if_neg (by omega), if_pos (by omega), past (by omega), if_pos hi]
  · rw [if_neg hi, if_neg (by omega), if_neg (by omega), if_neg hi]
/-- Prune. -/
def pn (e : S28) (s : List Bool) : List Bool := if valid e then (if hv e (ats e) s = true then pr e (ats e) (ats e).length (fst (ats e).length s) else List.replicate (ats e).length false) else []
theorem prune1 (e : S28) (s : List Bool) : Al (fun k => formula_Prune.f k e.f0 e.f1.f0 e.f1.f1.f0 e.f1.f1.f1 e.f2 s) (pn e s) := by
  refine Al.bindE (fun k => rfl) (atoms1 e) ?_
  have h8 := ats_len e
  unfold pn
  by_cases h : valid e
  · have hp := ats_pos h
    rw [if_pos h]
    refine Al.congr (g := fun k => (formula_holds.f k e.f0 e.f1.f0 e.f1.f1.f0 e.f1.f1.f1 e.f2 (ats e) s).bind fun t210 => (if t210 = true then (formula_Prune.l0 k (ats e) (Xw.cpyL (List.replicate (ats e).length false) s) (((ats e).length : Int) - 1) e.f0 e.f1.f0 e.f1.f1.f0 e.f1.f1.f1 e.f2) else (some (List.replicate (ats e).length false)))) (Al.bind (fh e (ats e) s h8 h.1.2) ?_) (fun k => ?_)
    · by_cases hh : hv e (ats e) s = true
      · rw [if_pos hh]
        refine Al.congr (prune_loop1 e (ats e) h8 h.1.2 (ats e).length (fst (ats e).length s) (by rw [fst_len]; exact Nat.le_refl _) (by rw [fst_len]; exact h8)) fun k => ?_
        rw [if_pos hh, copy_fst]
      · rw [if_neg hh]
        exact Al.val fun k => by rw [if_neg hh]
    · rw [if_neg (by omega), if_pos (by omega), if_pos (by omega), Int.toNat_natCast, w64_id (by omega) (by omega)]
      rfl
  · rw [if_neg h]
    exact Al.val fun k => by rw [if_pos (by rw [ats_invalid h]; simp)]
/-! More atoms never hurt. -/
def le_ (n : Nat) (s t : List Bool) : Prop := ∀ i, i < n → s.getD i false = true → t.getD i false = true
theorem tail_get (s : List Bool) (i : Nat) : s.tail.getD i false = s.getD (i + 1) false := by
  cases s <;> simp [List.getD_eq_getElem?_getD]
theorem lk_mono : ∀ (x : List S25) (s t : List Bool) (a : S25), le_ x.length s t → lk x s a = true → lk x t a = true
  | [], s, t, a, h => fun q => by cases q
  | b :: r, s, t, a, h => by
    simp only [lk]
    split
    · exact h 0 (by simp)
    · exact lk_mono r s.tail t.tail a (fun i hi => by rw [tail_get, tail_get]; exact h (i + 1) (by simpa using hi))
theorem hv_mono (x : List S25) (s t : List Bool) (h : le_ x.length s t) : (∀ e, hv e x s = true → hv e x t = true) ∧ (∀ l, hvL l x s ≤ hvL l x t) := by
  refine ind (P := fun e => hv e x s = true → hv e x t = true) (Q := fun l => hvL l x s ≤ hvL l x t) ?_ ?_ ?_
  · intro k a l hl
    simp only [hv]
    split
    · exact lk_mono x s t a h
    · intro q
      have := of_decide_eq_true q
      exact decide_eq_true (by omega)
  · exact Nat.le_refl _
  · intro e r he hr
    simp only [hvL]
    by_cases h1 : hv e x s = true
    · rw [if_pos h1, if_pos (he h1)]
      omega
    · rw [if_neg h1]
      split <;> omega
theorem hv_same (x : List S25) (s t : List Bool) (h1 : le_ x.length s t) (h2 : le_ x.length t s) (e : S28) : hv e x s = hv e x t := by
  rw [Bool.eq_iff_iff]
  exact ⟨(hv_mono x s t h1).1 e, (hv_mono x t s h2).1 e⟩
theorem le_fst (n : Nat) (s : List Bool) : le_ n (fst n s) s ∧ le_ n s (fst n s) := ⟨fun i hi q => by rw [fst_getD hi] at q; exact q, fun i hi q => by rw [fst_getD hi]; exact q⟩
theorem set_getD (o : List Bool) (i j : Nat) (v : Bool) : (o.set i v).getD j false = if i = j ∧ j < o.length then v else o.getD j false := by
  rw [List.getD_eq_getElem?_getD, List.getD_eq_getElem?_getD, List.getElem?_set]
  by_cases h : i = j
  · subst h
    rw [if_pos rfl]
    by_cases hl : i < o.length
    · rw [if_pos hl, if_pos ⟨rfl, hl⟩]
      rfl
    · rw [if_neg hl, if_neg (fun q => hl q.2), List.getElem?_eq_none (by omega)]
  · rw [if_neg h, if_neg (fun q => h q.1)]
theorem set_le (n : Nat) (o : List Bool) (i : Nat) : le_ n (o.set i false) o := fun j hj q => by
  rw [set_getD] at q
  split at q
  · cases q
  · exact q
/-- What is pruned: within, it holds, and none can go. -/
theorem pr_spec (e : S28) (x : List S25) : ∀ (i : Nat) (o : List Bool), o.length = x.length → i ≤ x.length → hv e x o = true → hv e x (pr e x i o) = true ∧ le_ x.length (pr e x i o) o ∧ (∀ j, j < i → (pr e x i o).getD j false = true → hv e x ((pr e x i o).set j false) = false)
  | 0, o, hl, hi, h => ⟨h, fun _ _ q => q, fun j hj => absurd hj (Nat.not_lt_zero _)⟩
  | i + 1, o, hl, hi, h => by
    by_cases hb : o.getD i false = true
    · have e2 : pr e x (i + 1) o = pr e x i ((o.set i false).set i (!hv e x (o.set i false))) := by simp only [pr]; rw [if_pos hb]
      rw [e2, List.set_set]
      by_cases hh : hv e x (o.set i false) = true
      · rw [hh]
        obtain ⟨h1, h2, h3⟩ := pr_spec e x i (o.set i false) (by simpa using hl) (by omega) hh
        refine ⟨h1, fun j hj q => set_le _ o i j hj (h2 j hj q), fun j hj q => ?_⟩
        by_cases e3 : j = i
        · subst e3
          have := h2 j (by omega) q
          rw [set_getD, if_pos ⟨rfl, by omega⟩] at this
          cases this
        · exact h3 j (by omega) q
      · rw [Bool.eq_false_iff.mpr hh]
        have e4 : o.set i (!false) = o := by
          apply List.ext_getElem (by simp)
          intro j h1 h2
          rw [List.getElem_set]
          split
          · rename_i e5
            subst e5
            rw [List.getD_eq_getElem?_getD, List.getElem?_eq_getElem h2] at hb
            exact hb.symm
          · rfl
        rw [e4]
        obtain ⟨h1, h2, h3⟩ := pr_spec e x i o hl (by omega) h
        refine ⟨h1, h2, fun j hj q => ?_⟩
        by_cases e3 : j = i
        · subst e3
          refine Bool.eq_false_iff.mpr (fun w => hh ((hv_mono x _ _ (fun m hm q2 => ?_)).1 e w))
          rw [set_getD] at q2 ⊢
          by_cases e6 : j = m ∧ m < (pr e x j o).length
          · rw [if_pos e6] at q2
            cases q2
          · rw [if_neg e6] at q2
            rw [if_neg (fun w2 => e6 ⟨w2.1, by rw [pr_len]; exact w2.2⟩)]
            exact h2 m hm q2
        · exact h3 j (by omega) q
    · have e2 : pr e x (i + 1) o = pr e x i o := by simp only [pr]; rw [if_neg hb]
      rw [e2]
      obtain ⟨h1, h2, h3⟩ := pr_spec e x i o hl (by omega) h
      refine ⟨h1, h2, fun j hj q => ?_⟩
      by_cases e3 : j = i
      · subst e3
        exact absurd (h2 j (by omega) q) hb
      · exact h3 j (by omega) q
end Go.Proofs.Ytefbcebpokoinaa.Pp

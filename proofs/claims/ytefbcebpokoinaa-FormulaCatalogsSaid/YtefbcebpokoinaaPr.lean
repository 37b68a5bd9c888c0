import Derived.Test.YtefbcebpokoinaaPg
namespace Go.Proofs.Ytefbcebpokoinaa.Pr
open Go.RowKit Go.Proofs.Ytefbcebpokoinaa.Y Go.Proofs.Ytefbcebpokoinaa.Pa Go.Proofs.Ytefbcebpokoinaa.Ps Go.Proofs.Ytefbcebpokoinaa.Pv Go.Proofs.Ytefbcebpokoinaa.Pg Go.Proofs.YtefbcebpokoinaaW.PrintWords Go.Proofs.YtefbcebpokoinaaW.PrintLast Go.Proofs.YtefbcebpokoinaaW.PrintMore
set_option linter.unusedVariables false
set_option linter.unusedSimpArgs false
/-! The program's validity and atoms are the reference's. -/
def apart (a b : S25) : Prop := sameN a b = false
def good (x : List S25) : Prop := x.length ≤ 8 ∧ x.Pairwise apart
theorem good_nil : good [] := ⟨by simp, List.Pairwise.nil⟩
theorem good_pre {x t : List S25} (h : good (x ++ t)) : good x := ⟨by have := h.1; rw [List.length_append] at this; omega, (List.pairwise_append.1 h.2).1⟩
theorem add_ext : (∀ e x, (add e x).2 = true → ∃ t, (add e x).1 = x ++ t) ∧ (∀ l x, (addL l x).2 = true → ∃ t, (addL l x).1 = x ++ t) := by
  refine ind (P := fun e => ∀ x, (add e x).2 = true → ∃ t, (add e x).1 = x ++ t) (Q := fun l => ∀ x, (addL l x).2 = true → ∃ t, (addL l x).1 = x ++ t) ?_ ?_ ?_
  · intro k a l hl x
    simp only [add]
    split
    · split
      · split
        · exact fun _ => ⟨[], by simp⟩
        · exact fun _ => ⟨[a], rfl⟩
      · intro h; cases h
    · split
      · intro h; cases h
      · exact hl x
  · intro x _
    exact ⟨[], by simp [addL]⟩
  · intro e r he hr x
    simp only [addL]
    split
    · intro h
      rename_i h1
      obtain ⟨t1, e1⟩ := he x h1
      obtain ⟨t2, e2⟩ := hr _ h
      exact ⟨t1 ++ t2, by rw [e2, e1, List.append_assoc]⟩
    · intro h; cases h
theorem any_same {x : List S25} {a : S25} (h : x.find? (fun b => sameN b a) = none) : x.any (fun b => eqA b a) = false := by
  rw [List.find?_eq_none] at h
  rw [List.any_eq_false]
  intro b hb he
  exact h b hb (eqA_same he)
theorem any_found {x : List S25} {a b : S25} (hg : x.Pairwise apart) (h : x.find? (fun b => sameN b a) = some b) : x.any (fun b => eqA b a) = eqA b a := by
  induction x with
  | nil => cases h
  | cons c r ih =>
    rw [List.pairwise_cons] at hg
    by_cases hc : sameN c a = true
    · rw [List.find?_cons_of_pos (p := fun b => sameN b a) hc] at h
      injection h with h
      subst h
      have : r.any (fun b => eqA b a) = false := by
        rw [List.any_eq_false]
        intro b hb he
        have := hg.1 b hb
        unfold apart at this
        rw [same_trans hc (eqA_same he)] at this
        cases this
      rw [List.any_cons, this, Bool.or_false]
    · rw [List.find?_cons_of_neg (p := fun b => sameN b a) hc] at h
      have h0 : eqA c a = false := Bool.eq_false_iff.mpr (fun h => hc (eqA_same h))
      rw [List.any_cons, h0, Bool.false_or]
      exact ih hg.2 h
theorem good_app {x : List S25} {a : S25} (hg : good x) (h : x.find? (fun b => sameN b a) = none) (hl : x.length + 1 ≤ 8) : good (x ++ [a]) := by
  refine ⟨by simpa using hl, List.pairwise_append.2 ⟨hg.2, List.pairwise_singleton _ _, fun b hb c hc => ?_⟩⟩
  rw [List.mem_singleton] at hc
  subst hc
  rw [List.find?_eq_none] at h
  exact Bool.eq_false_iff.mpr (h b hb)
def RP (e : S28) : Prop := ∀ x, good x → ((gth e x).1 = true → add e x = ((gth e x).2, true) ∧ col e x = (gth e x).2 ∧ good (gth e x).2) ∧ ((gth e x).1 = false → (add e x).2 = true → ¬ good (add e x).1)
def RQ (l : List S28) : Prop := ∀ x, good x → ((gthL l x).1 = true → addL l x = ((gthL l x).2, true) ∧ colL l x = (gthL l x).2 ∧ good (gthL l x).2) ∧ ((gthL l x).1 = false → (addL l x).2 = true → ¬ good (addL l x).1)
theorem rel_all : (∀ e, RP e) ∧ (∀ l, RQ l) := by
  refine ind ?_ ?_ ?_
  · intro k a l hl x hg
    by_cases h0 : k = 0
    · subst h0
      by_cases hk : 0 < l.length
      · have e1 : gth ⟨0, a, l⟩ x = (false, x) := by simp [gth, hk]
        have e2 : add ⟨0, a, l⟩ x = (x, false) := by
          have hk0 : ¬ l.length = 0 := by omega
          simp only [add]
          rw [if_neg hk0, if_pos (.inl (by omega))]
        rw [e1, e2]
        exact ⟨fun h => (by cases h), fun _ h => (by cases h)⟩
      · have hk0 : l.length = 0 := by omega
        by_cases hv : leaf a = true
        · have e1 : gth ⟨0, a, l⟩ x = (match x.find? (fun b => sameN b a) with | some b => (eqA b a, x) | none => (decide (x.length + 1 ≤ 8), x ++ [a])) := by
            simp only [gth]
            rw [if_pos trivial, if_neg hk, if_pos hv]
            cases x.find? (fun b => sameN b a) <;> rfl
          have e2 : add ⟨0, a, l⟩ x = (if x.any (fun b => eqA b a) = true then (x, true) else (x ++ [a], true)) := by simp [add, hk0, hv]
          have e3 : col ⟨0, a, l⟩ x = (if x.any (fun b => eqA b a) = true then x else x ++ [a]) := by simp [col]
          rw [e1, e2, e3]
          cases hq : x.find? (fun b => sameN b a) with
          | some b =>
            have ha := any_found hg.2 hq
            dsimp only
            constructor
            · intro h
              rw [ha, if_pos h, if_pos h]
              exact ⟨rfl, rfl, hg⟩
            · intro h
              rw [ha, if_neg (by rw [h]; decide)]
              intro _ hgd
              have hb := List.find?_some hq
              have hm := List.mem_of_find?_eq_some hq
              have := (List.pairwise_append.1 hgd.2).2.2 b hm a (List.mem_singleton.2 rfl)
              unfold apart at this
              have hb' : sameN b a = true := hb
              rw [hb'] at this
              cases this
          | none =>
            have ha := any_same hq
            dsimp only
            rw [ha]
            simp only [Bool.false_eq_true, if_false]
            constructor
            · intro h
              exact ⟨trivial, trivial, good_app hg hq (of_decide_eq_true h)⟩
            · intro h _ hgd
              have := of_decide_eq_false h
              have := hgd.1
              rw [List.length_append, List.length_singleton] at this
              omega
        · have e1 : gth ⟨0, a, l⟩ x = (false, x) := by simp [gth, hk, hv]
          have e2 : add ⟨0, a, l⟩ x = (x, false) := by simp [add, hk0, hv]
          rw [e1, e2]
          exact ⟨fun h => (by cases h), fun _ h => (by cases h)⟩
    · by_cases hb : k < 1 ∨ k > (l.length : Int) ∨ odd a = true
      · have e1 : gth ⟨k, a, l⟩ x = (false, x) := by simp only [gth]; rw [if_neg h0, if_pos hb]
        have e2 : (add ⟨k, a, l⟩ x).2 = false := by
          simp only [add]
          split
          · rw [if_neg (fun h => h0 h.1)]
          · rfl
        rw [e1, e2]
        exact ⟨fun h => (by cases h), fun _ h => (by cases h)⟩
      · have hk : ¬ l.length = 0 := fun h => hb (by by_cases h1 : k < 1; exact .inl h1; exact .inr (.inl (by omega)))
        have e1 : gth ⟨k, a, l⟩ x = gthL l x := by simp only [gth]; rw [if_neg h0, if_neg hb]
        have e2 : add ⟨k, a, l⟩ x = addL l x := by simp only [add]; rw [if_neg hk, if_neg hb]
        have e3 : col ⟨k, a, l⟩ x = colL l x := by simp [col, h0]
        rw [e1, e2, e3]
        exact hl x hg
  · intro x hg
    exact ⟨fun _ => ⟨rfl, rfl, hg⟩, fun h => by cases h⟩
  · intro e r he hr x hg
    obtain ⟨h1, h2⟩ := he x hg
    by_cases hq : (gth e x).1 = true
    · obtain ⟨ea, ec, hg2⟩ := h1 hq
      have e1 : gthL (e :: r) x = gthL r (gth e x).2 := by simp only [gthL]; rw [if_pos hq]
      have e2 : addL (e :: r) x = addL r (gth e x).2 := by simp only [addL]; rw [ea, if_pos rfl]
      have e3 : colL (e :: r) x = colL r (gth e x).2 := by simp only [colL]; rw [ec]
      rw [e1, e2, e3]
      exact hr _ hg2
    · have e1 : gthL (e :: r) x = (false, (gth e x).2) := by simp only [gthL]; rw [if_neg hq]
      rw [e1]
      refine ⟨fun h => (by cases h), fun _ h => ?_⟩
      by_cases ha : (add e x).2 = true
      · have e2 : addL (e :: r) x = addL r (add e x).1 := by simp only [addL]; rw [if_pos ha]
        rw [e2] at h ⊢
        obtain ⟨t, et⟩ := add_ext.2 r _ h
        rw [et]
        exact fun hgd => h2 (Bool.eq_false_iff.mpr hq) ha (good_pre hgd)
      · have e2 : addL (e :: r) x = ([], false) := by simp only [addL]; rw [if_neg ha]
        rw [e2] at h
        cases h
/-- Whether an expression is valid. -/
def valid (e : S28) : Prop := fit e ∧ (gth e []).1 = true
instance (e : S28) : Decidable (valid e) := by unfold valid; infer_instance
/-- Its atoms. -/
def ats (e : S28) : List S25 := if valid e then (gth e []).2 else []
theorem fit_cnt (e : S28) : (cnt e = 0 ↔ ¬ fit e) := by
  unfold cnt
  have := nodes_pos e
  split <;> simp_all
  omega
theorem valid1 (e : S28) : Al (fun k => request_ValidExpr.f k e.f0 e.f1.f0 e.f1.f1.f0 e.f1.f1.f1 e.f2) (decide (valid e)) := by
  refine Al.bindE (fun k => rfl) (nodes1 e) ?_
  by_cases h : fit e
  · have hc : cnt e > 0 := by unfold cnt; rw [if_pos h]; have := nodes_pos e; omega
    refine Al.congr (g := fun k => (gf k [] e).bind fun t => some t.1) (Al.bind (f := fun _ t => some t.1) (gather_all.1 e [] h.2 (by simp)).1 (Al.val fun k => ?_)) (fun k => by rw [if_pos hc]; rfl)
    show some (gth e []).1 = some (decide (valid e))
    have hv : valid e ↔ (gth e []).1 = true := ⟨fun q => q.2, fun q => ⟨h, q⟩⟩
    by_cases hq : (gth e []).1 = true
    · rw [decide_eq_true (hv.mpr hq), hq]
    · rw [decide_eq_false (fun q => hq (hv.mp q)), Bool.eq_false_iff.mpr hq]
  · have hc : ¬ cnt e > 0 := by unfold cnt; rw [if_neg h]; omega
    exact Al.val fun k => by rw [if_neg hc, decide_eq_false (fun q => h q.1)]
theorem atoms1 (e : S28) : Al (fun k => formula_Atoms.f k e.f0 e.f1.f0 e.f1.f1.f0 e.f1.f1.f1 e.f2) (ats e) := by
  refine Al.bindE (fun k => rfl) (valid1 e) ?_
  unfold ats
  by_cases h : valid e
  · rw [if_pos h]
    refine Al.congr (g := fun k => (cf k [] e).bind fun t => some t) (Al.bind (f := fun _ t => some t) (col_all.1 e [] h.1.2 (by have := h.1.2; simp; omega)).1 (Al.val fun k => ?_)) (fun k => by rw [decide_eq_true h, if_pos rfl]; rfl)
    rw [((rel_all.1 e [] good_nil).1 h.2).2.1]
  · rw [if_neg h]
    exact Al.val fun k => by rw [decide_eq_false h, if_neg (by decide)]
/-! The reference's names that are all different. -/
def Dif (x : List S25) (i j : Nat) : Prop := ∀ b (hb : b < x.length), i ≤ b → ∀ a (ha : a < b), (b = i → j ≤ a) → apart (x[b]'hb) (x[a]'(by omega))
theorem apart_symm {a b : S25} (h : apart a b) : apart b a := by
  unfold apart sameN at *
  rw [beq_eq_false_iff_ne] at *
  exact fun e => h e.symm
theorem rd25' {x : List S25} {i : Nat} (h : i < x.length) : rd_T25 x (i : Int) = x[i] := rd25 (List.getElem?_eq_getElem h)
theorem dl (x : List S25) (hx : x.length ≤ 8) : ∀ (n i : Nat), i + n = x.length → ∃ r, Al (fun k => clusterlocksref07_Atoms.l0 k x (i : Int)) r ∧ (Dif x i 0 → r = (x, true)) ∧ (¬ Dif x i 0 → r = ([], false))
  | 0, i, h => ⟨(x, true), Al.succV fun k => by simp only [clusterlocksref07_Atoms.l0]; rw [if_neg (by omega)], fun _ => rfl, fun hn => absurd (fun b hb hi => by omega) hn⟩
  | n + 1, i, h => by
    obtain ⟨r, hA, h1, h2⟩ := dl x hx n (i + 1) (by omega)
    have inner : ∀ (m j : Nat), j + m = i → ∃ r, Al (fun k => clusterlocksref07_Atoms.l1 k x (i : Int) (j : Int)) r ∧ (Dif x i j → r = (x, true)) ∧ (¬ Dif x i j → r = ([], false)) := by
      intro m
      induction m with
      | zero =>
        intro j hj
        have hd : Dif x i j ↔ Dif x (i + 1) 0 := by
          constructor
          · exact fun hD b hb hi a ha _ => hD b hb (by omega) a ha (fun e => by omega)
          · intro hD b hb hi a ha hj2
            by_cases e : b = i
            · have := hj2 e
              omega
            · exact hD b hb (by omega) a ha (fun _ => Nat.zero_le _)
        refine ⟨r, Al.succ hA fun k => ?_, fun q => h1 (hd.mp q), fun q => h2 (fun w => q (hd.mpr w))⟩
        simp only [clusterlocksref07_Atoms.l1]
        rw [if_neg (by omega), w64_id (by omega) (by omega)]
        rfl
      | succ m ih =>
        intro j hj
        have hji : j < x.length := by omega
        have hii : i < x.length := by omega
        have e : ∀ k, clusterlocksref07_Atoms.l1 (k + 1) x (i : Int) (j : Int) = if x[i].f0.toList = x[j].f0.toList then some ([], false) else clusterlocksref07_Atoms.l1 k x (i : Int) (j + 1 : Nat) := fun k => by
          simp only [clusterlocksref07_Atoms.l1]
          rw [if_pos (by omega), if_pos (by omega), if_pos (by omega), if_pos (by omega), if_pos (by omega), rd25' hii, rd25' hji, w64_id (by omega) (by omega)]
          rfl
        by_cases hs : x[i].f0.toList = x[j].f0.toList
        · refine ⟨([], false), Al.succV fun k => by rw [e, if_pos hs], fun hD => ?_, fun _ => rfl⟩
          have := hD i hii (Nat.le_refl _) j (by omega) (fun _ => Nat.le_refl _)
          unfold apart sameN at this
          rw [hs] at this
          simp at this
        · obtain ⟨r2, hB, h3, h4⟩ := ih (j + 1) (by omega)
          have hd : Dif x i j ↔ Dif x i (j + 1) := by
            constructor
            · exact fun hD b hb hi a ha hj2 => hD b hb hi a ha (fun e => by have := hj2 e; omega)
            · intro hD b hb hi a ha hj2
              by_cases e : b = i ∧ a = j
              · obtain ⟨e1, e2⟩ := e
                subst e1; subst e2
                unfold apart sameN
                rw [beq_eq_false_iff_ne]
                exact hs
              · exact hD b hb hi a ha (fun e1 => by have := hj2 e1; have : a ≠ j := fun e2 => e ⟨e1, e2⟩; omega)
          exact ⟨r2, Al.succ hB fun k => by rw [e, if_neg hs], fun q => h3 (hd.mp q), fun q => h4 (fun w => q (hd.mpr w))⟩
    obtain ⟨r2, hB, h3, h4⟩ := inner i 0 (by omega)
    refine ⟨r2, Al.succ hB fun k => ?_, h3, h4⟩
    simp only [clusterlocksref07_Atoms.l0]
    rw [if_pos (by omega)]
    rfl
theorem dif_good (x : List S25) : Dif x 0 0 ↔ x.Pairwise apart := by
  rw [List.pairwise_iff_getElem]
  constructor
  · exact fun h a b ha hb hab => apart_symm (h b hb (Nat.zero_le _) a hab (fun _ => Nat.zero_le _))
  · exact fun h b hb _ a ha _ => apart_symm (h a b (by omega) hb ha)
theorem atoms2 (e : S28) : Al (fun k => clusterlocksref07_Atoms.f k e.f0 e.f1.f0 e.f1.f1.f0 e.f1.f1.f1 e.f2) (ats e, decide (valid e)) := by
  refine Al.bindE (fun k => rfl) (nodes2 e) ?_
  by_cases hf : fit e
  · have hc : ¬ cnt e = 0 := fun h => (fit_cnt e).mp h hf
    obtain ⟨z, hA, hz⟩ := add_all.1 e [] hf.2 (by have := hf.2; simp; omega)
    refine Al.congr (g := fun k => (af k [] e).bind fun t => if t.2 = true then (if (t.1.length : Int) > 8 then some ([], false) else clusterlocksref07_Atoms.l0 k t.1 0) else some ([], false)) (Al.bind hA ?_) (fun k => by rw [if_neg hc]; rfl)
    obtain ⟨r1, r2⟩ := rel_all.1 e [] good_nil
    by_cases hg : (gth e []).1 = true
    · obtain ⟨ea, _, hgd⟩ := r1 hg
      have hv : valid e := ⟨hf, hg⟩
      have hz1 := (hz (by rw [ea])).1
      rw [ea] at hz1
      obtain ⟨r, hD, h3, h4⟩ := dl z (by rw [hz1]; exact hgd.1) z.length 0 (by omega)
      have hr : r = (z, true) := h3 ((dif_good z).mpr (by rw [hz1]; exact hgd.2))
      refine Al.congr (Al.eq hD (by rw [hr, hz1, decide_eq_true hv]; unfold ats; rw [if_pos hv])) fun k => ?_
      dsimp only
      rw [ea, if_pos rfl, if_neg (by rw [hz1]; have := hgd.1; dsimp only; omega)]
      rfl
    · have hv : ¬ valid e := fun h => hg h.2
      have h0 : ats e = [] := by unfold ats; rw [if_neg hv]
      rw [h0, decide_eq_false hv]
      by_cases ha : (add e []).2 = true
      · have hz1 := (hz ha).1
        have hng := r2 (Bool.eq_false_iff.mpr hg) ha
        rw [← hz1] at hng
        by_cases hl : (z.length : Int) > 8
        · exact Al.val fun k => by dsimp only; rw [if_pos ha, if_pos hl]
        · obtain ⟨r, hD, h3, h4⟩ := dl z (by omega) z.length 0 (by omega)
          have hr := h4 (fun q => hng ⟨by omega, (dif_good z).mp q⟩)
          exact Al.congr (Al.eq hD hr) fun k => by dsimp only; rw [if_pos ha, if_neg hl]; rfl
      · exact Al.val fun k => by dsimp only; rw [if_neg ha]
  · have hv : ¬ valid e := fun h => hf h.1
    have h0 : ats e = [] := by unfold ats; rw [if_neg hv]
    rw [h0, decide_eq_false hv]
    exact Al.val fun k => by rw [if_pos ((fit_cnt e).mpr hf)]
theorem atoms3 (e : S28) : Al (fun k => clusterlocksref08_Atoms.f k e.f0 e.f1.f0 e.f1.f1.f0 e.f1.f1.f1 e.f2) (ats e) := Al.bindE (fun k => rfl) (atoms2 e) (Al.val fun k => rfl)
/-- A valid expression has an atom; at most eight; all different. -/
theorem add_ne : (∀ e x, (add e x).2 = true → (add e x).1 ≠ []) ∧ (∀ l x, (addL l x).2 = true → l ≠ [] → (addL l x).1 ≠ []) := by
  refine ind (P := fun e => ∀ x, (add e x).2 = true → (add e x).1 ≠ []) (Q := fun l => ∀ x, (addL l x).2 = true → l ≠ [] → (addL l x).1 ≠ []) ?_ ?_ ?_
  · intro k a l hl x
    simp only [add]
    split
    · split
      · split
        · rename_i h
          intro _ e
          have e' : x = [] := e
          rw [e'] at h
          simp at h
        · simp
      · intro h; cases h
    · rename_i h0
      split
      · intro h; cases h
      · exact fun h => hl x h (fun e => h0 (by rw [e]; rfl))
  · exact fun _ _ h => absurd rfl h
  · intro e r he hr x h _
    simp only [addL] at h ⊢
    split
    · rename_i h1
      rw [if_pos h1] at h
      obtain ⟨t, et⟩ := add_ext.2 r _ h
      rw [et]
      simp [he x h1]
    · rename_i h1
      rw [if_neg h1] at h
      cases h
theorem ats_valid {e : S28} (h : valid e) : ats e ≠ [] ∧ good (ats e) := by
  obtain ⟨ea, _, hg⟩ := (rel_all.1 e [] good_nil).1 h.2
  have h0 : ats e = (gth e []).2 := by unfold ats; rw [if_pos h]
  rw [h0]
  refine ⟨?_, hg⟩
  have := add_ne.1 e [] (by rw [ea])
  rw [ea] at this
  exact this
theorem ats_invalid {e : S28} (h : ¬ valid e) : ats e = [] := by unfold ats; rw [if_neg h]
end Go.Proofs.Ytefbcebpokoinaa.Pr

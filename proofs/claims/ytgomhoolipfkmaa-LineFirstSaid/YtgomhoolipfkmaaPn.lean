import Derived.Test.YtgomhoolipfkmaaPi
import Derived.Test.YtgomhoolipfkmaaPq
import Derived.Test.YtgomhoolipfkmaaY21
namespace Go.Proofs.Ytgomhoolipfkmaa.Pl
open Go.RowKit Go.Proofs.Ytgomhoolipfkmaa.Y Go.Proofs.Ytgomhoolipfkmaa.Pa Go.Proofs.YtgomhoolipfkmaaW.PrintWords Go.Proofs.YtgomhoolipfkmaaW.PrintLast Go.Proofs.YtgomhoolipfkmaaW.PrintMore
set_option linter.unusedVariables false
set_option linter.unusedSimpArgs false
/-! Lines that a script makes: valid ones, of the eight processes. -/
def pr (m : Nat) : S24 := ⟨((m % 4 : Nat) : Int), 1, 1 + ((m / 4 : Nat) : Int)⟩
def nm (x : S28) : Nat := ((x.f0.f2 - 1) * 4 + x.f0.f0).toNat
theorem nm_pr (x : S28) (m : Nat) (h : x.f0 = pr m) : nm x = m := by
  unfold nm
  rw [h]
  simp only [pr]
  omega
theorem pr_inj (m n : Nat) (h : pr m = pr n) : m = n := by
  have h1 := congrArg S24.f0 h
  have h2 := congrArg S24.f2 h
  simp only [pr] at h1 h2
  omega
theorem p_iff (q : S24) (x : S28) : line_Find.p q.f0 q.f1 q.f2 x = true ↔ x.f0 = q := by
  obtain ⟨⟨a, b, c⟩, x1, x2, x3⟩ := x
  obtain ⟨d, e, f⟩ := q
  simp [line_Find.p]
theorem p_iff' (q : S24) (x : S28) : line_Find.p q.f0 q.f1 q.f2 x = false ↔ x.f0 ≠ q := by
  rw [← Bool.not_eq_true, p_iff]
theorem getD_mem {l : List S28} {i : Nat} (h : i < l.length) : l.getD i z28 ∈ l := by
  rw [List.getD_eq_getElem?_getD, List.getElem?_eq_getElem h]
  exact List.getElem_mem h
/-- It is the line of a script: beside the order that comes in. -/
structure Gl (l : List S28) : Prop where
  len : l.length ≤ 8
  vw : ∀ x ∈ l, VW x = true
  pr : ∀ x ∈ l, ∃ m, m < 8 ∧ x.f0 = pr m
  ne : l.Pairwise (fun x y => x.f0 ≠ y.f0)
theorem getD_ne {l : List S28} (h : l.Pairwise (fun x y => x.f0 ≠ y.f0)) {i j : Nat} (hij : i < j) (hj : j < l.length) : (l.getD i z28).f0 ≠ (l.getD j z28).f0 := by
  have := List.pairwise_iff_getElem.1 h i j (by omega) hj hij
  rwa [List.getD_eq_getElem?_getD, List.getElem?_eq_getElem (by omega : i < l.length), List.getD_eq_getElem?_getD, List.getElem?_eq_getElem hj]
theorem Gl.vl {l : List S28} (h : Gl l) (d : Nat) : ∀ i, i + d ≤ l.length → Pl.vl l d i = true := by
  induction d with
  | zero => intro i hi; rfl
  | succ d ih =>
    intro i hi
    simp only [Pl.vl]
    rw [h.vw _ (getD_mem (by omega)), ih (i + 1) (by omega), Xw.idx_hit _ z28 l i (by omega) (fun j hj => ?_) (find_self _)]
    · simp
    · rw [p_iff']
      exact getD_ne h.ne hj (by omega)
theorem Gl.VL {l : List S28} (h : Gl l) : VL l = true := by
  unfold Pl.VL
  rw [decide_eq_true h.len, h.vl l.length 0 (by omega)]
  rfl
theorem idx_no (q : S24) {l : List S28} (h : ¬ 0 ≤ Xw.idx_ (line_Find.p q.f0 q.f1 q.f2) l) : ∀ x ∈ l, x.f0 ≠ q := by
  have hg := Xw.idx_ge (line_Find.p q.f0 q.f1 q.f2) l
  have := List.filter_eq_self.1 (Xw.idx_none (line_Find.p q.f0 q.f1 q.f2) l (by omega))
  intro x hx
  have := this x hx
  rw [← p_iff']
  simpa using this
theorem Gl.nil : Gl [] := ⟨by decide, by simp, by simp, List.Pairwise.nil⟩
theorem Gl.rest {l : List S28} (h : Gl l) (a b c : Int) : Gl (rest a b c l) :=
  ⟨Nat.le_trans (rest_len a b c l) h.len, fun x hx => h.vw x (List.mem_filter.1 hx).1, fun x hx => h.pr x (List.mem_filter.1 hx).1, h.ne.filter _⟩
theorem pos_lt (l : List S28) (p : Int) : ∀ n i, pos l p n ≤ i → i < n → (l.getD i z28).f2 < p ∧ (l.getD i z28).f3 < 3
  | 0, i, _, h => by omega
  | n + 1, i, h1, h2 => by
    simp only [pos] at h1
    by_cases c : (l.getD n z28).f2 < p ∧ (l.getD n z28).f3 < 3
    · rw [if_pos c] at h1
      by_cases e : i = n
      · subst e; exact c
      · exact pos_lt l p n i h1 (by omega)
    · rw [if_neg c] at h1; omega
theorem mem_drop_pos {l : List S28} {p : Int} {y : S28} (h : y ∈ l.drop (pos l p l.length)) : y.f2 < p ∧ y.f3 < 3 := by
  obtain ⟨i, hi, rfl⟩ := List.getElem_of_mem h
  rw [List.length_drop] at hi
  have := pos_lt l p l.length (pos l p l.length + i) (by omega) (by omega)
  rw [List.getD_eq_getElem?_getD, List.getElem?_eq_getElem (by omega)] at this
  rw [List.getElem_drop]
  exact this
theorem vw_bump {y : S28} (h : VW y = true) (h3 : y.f3 < 3) : VW (bump y) = true := by
  have h4 : 0 ≤ y.f3 := by
    unfold VW VR at h
    simp only [Bool.and_eq_true, decide_eq_true_eq] at h
    exact h.2.1.2
  have e : wrap64 (y.f3 + 1) = y.f3 + 1 := w64_id (by omega) (by omega)
  unfold VW VR at h ⊢
  simp only [bump, e, Bool.and_eq_true, decide_eq_true_eq] at h ⊢
  exact ⟨h.1, ⟨⟨h.2.1.1, by omega⟩, by omega⟩⟩
theorem put_pairwise {l : List S28} {w : S28} {R R' : S28 → S28 → Prop} (h : l.Pairwise R) (hR : ∀ x ∈ l, ∀ y ∈ l, R x y → R' x y) (hb : ∀ x ∈ l, ∀ y ∈ l, R x y → R' x (bump y)) (hb2 : ∀ x ∈ l, ∀ y ∈ l, R x y → R' (bump x) (bump y)) (h1 : ∀ x ∈ l, R' x w) (h2 : ∀ y ∈ l, y.f2 < w.f2 → R' w (bump y)) : (put l w).Pairwise R' := by
  unfold put
  have hl := h
  rw [← List.take_append_drop (pos l w.f2 l.length) l, List.pairwise_append] at hl
  rw [List.pairwise_append, List.pairwise_cons, List.pairwise_map]
  refine ⟨hl.1.imp_of_mem fun ha hb' hr => hR _ (List.mem_of_mem_take ha) _ (List.mem_of_mem_take hb') hr, ⟨fun y hy => ?_, hl.2.1.imp_of_mem fun ha hb' hr => hb2 _ (List.mem_of_mem_drop ha) _ (List.mem_of_mem_drop hb') hr⟩, fun x hx y hy => ?_⟩
  · obtain ⟨z, hz, rfl⟩ := List.mem_map.1 hy
    exact h2 z (List.mem_of_mem_drop hz) (mem_drop_pos hz).1
  · rcases List.mem_cons.1 hy with rfl | hy
    · exact h1 x (List.mem_of_mem_take hx)
    · obtain ⟨z, hz, rfl⟩ := List.mem_map.1 hy
      exact hb x (List.mem_of_mem_take hx) z (List.mem_of_mem_drop hz) (hl.2.2 x hx z hz)
theorem mem_put {l : List S28} {w x : S28} (h : x ∈ put l w) : x ∈ l ∨ x = w ∨ ∃ y ∈ l, y.f2 < w.f2 ∧ y.f3 < 3 ∧ x = bump y := by
  unfold put at h
  rcases List.mem_append.1 h with h | h
  · exact .inl (List.mem_of_mem_take h)
  · rcases List.mem_cons.1 h with rfl | h
    · exact .inr (.inl rfl)
    · obtain ⟨z, hz, rfl⟩ := List.mem_map.1 h
      exact .inr (.inr ⟨z, List.mem_of_mem_drop hz, (mem_drop_pos hz).1, (mem_drop_pos hz).2, rfl⟩)
theorem Gl.put {l : List S28} (h : Gl l) {w : S28} (hw : VW w = true) {m : Nat} (hm : m < 8) (e : w.f0 = Pl.pr m) (hn : ∀ x ∈ l, x.f0 ≠ w.f0) (h8 : l.length ≠ 8) : Gl (put l w) := by
  refine ⟨by rw [put_len]; have := h.len; omega, fun x hx => ?_, fun x hx => ?_, put_pairwise h.ne (fun _ _ _ _ h => h) (fun _ _ _ _ h => h) (fun _ _ _ _ h => h) (fun x hx => hn x hx) (fun y hy _ => (hn y hy).symm)⟩
  · rcases mem_put hx with hx | rfl | ⟨y, hy, _, h3, rfl⟩
    · exact h.vw x hx
    · exact hw
    · exact vw_bump (h.vw y hy) h3
  · rcases mem_put hx with hx | rfl | ⟨y, hy, _, h3, rfl⟩
    · exact h.pr x hx
    · exact ⟨m, hm, e⟩
    · exact h.pr y hy
/-! What a step does. -/
theorem mod_f (a b : Int) (hb : 1 ≤ b) (hb2 : b ≤ 1000) : clusterlocksmill_Mod.f a b = some (a % b) := by
  have h1 := Int.emod_nonneg a (by omega : b ≠ 0)
  have h2 := Int.emod_lt_of_pos a (by omega : 0 < b)
  have h5 := Int.tmod_eq_emod (a := a) (b := b)
  unfold clusterlocksmill_Mod.f
  rw [if_neg (by omega), if_neg (by omega)]
  split at h5
  · rw [if_neg (by omega)]
    congr 1; omega
  · rw [if_pos (by omega), w64_id (by omega) (by omega)]
    congr 1; omega
theorem proc_f (q : Int) : clusterlocksmill_Proc.f q = some ((pr (q % 8).toNat).f0, (pr (q % 8).toNat).f1, (pr (q % 8).toNat).f2) := by
  have h1 := Int.emod_nonneg q (by omega : (8 : Int) ≠ 0)
  have h2 := Int.emod_lt_of_pos q (by omega : (0 : Int) < 8)
  unfold clusterlocksmill_Proc.f
  rw [mod_f q 8 (by omega) (by omega)]
  simp only [Option.bind_some, pr]
  rw [Int.tmod_eq_emod_of_nonneg h1, Int.tdiv_eq_ediv_of_nonneg h1, w64_id (n := q % 8 / 4) (by omega) (by omega), w64_id (by omega) (by omega)]
  congr 2
  · omega
  · congr 2
    omega
def mk (n : Int) : S28 := ⟨pr (n / 5 % 8).toNat, ⟨5, 0⟩, n % 8, 0⟩
def stp (l : List S28) (n : Int) : List S28 × Bool × Bool :=
  if n % 5 = 0 then (rest (pr (n / 5 % 8).toNat).f0 (pr (n / 5 % 8).toNat).f1 (pr (n / 5 % 8).toNat).f2 l, false, true)
  else if 0 ≤ Xw.idx_ (line_Find.p (pr (n / 5 % 8).toNat).f0 (pr (n / 5 % 8).toNat).f1 (pr (n / 5 % 8).toNat).f2) l then (l, false, true)
  else if l.length = 8 then (l, false, true) else (put l (mk n), true, true)
theorem vp_pr : ∀ m : Fin 8, VP (pr m.val).f0 (pr m.val).f1 (pr m.val).f2 = true := by decide
theorem mk_vw (n : Int) : VW (mk n) = true := by
  have h1 := Int.emod_nonneg (n / 5) (by omega : (8 : Int) ≠ 0)
  have h2 := Int.emod_lt_of_pos (n / 5) (by omega : (0 : Int) < 8)
  have h3 := Int.emod_lt_of_pos n (by omega : (0 : Int) < 8)
  have h4 := Int.emod_nonneg n (by omega : (8 : Int) ≠ 0)
  have h := vp_pr ⟨(n / 5 % 8).toNat, by omega⟩
  unfold VW
  rw [show VP (mk n).f0.f0 (mk n).f0.f1 (mk n).f0.f2 = true from h]
  show (true && VU 5 0 && VR (n % 8) 0) = true
  unfold VR
  rw [show VU 5 0 = true from rfl, decide_eq_true (show n % 8 ≥ 0 by omega), decide_eq_true (show n % 8 ≤ 7 by omega)]
  rfl
theorem step_al {l : List S28} (h : Gl l) (n : Int) (h0 : 0 ≤ n) (h1 : n < 1000) : Al (fun k => clusterlockslaw11_step.f k l n) (stp l n) := by
  have hl := h.len
  unfold stp
  by_cases c : n % 5 = 0
  · rw [if_pos c]
    refine Al.val fun k => ?_
    unfold clusterlockslaw11_step.f
    rw [if_pos (by rw [Int.tmod_eq_emod_of_nonneg h0]; exact c), Int.tdiv_eq_ediv_of_nonneg h0, w64_id (by omega) (by omega), proc_f]
    simp only [Option.bind_some]
    rw [lremove l (by omega)]
    rfl
  · rw [if_neg c]
    refine Al.bindE (g := fun k => line_Insert.f k l (mk n).f0.f0 (mk n).f0.f1 (mk n).f0.f2 (mk n).f1.f0 (mk n).f1.f1 (mk n).f2 (mk n).f3) (f := fun k t => if t.2.2 = 0 then some (t.1, true, true) else if t.2.2 = 11 then some (l, false, true) else some (l, false, t.2.2 == 4)) (fun k => ?_) (lins l (by omega) (mk n)) (Al.val fun k => ?_)
    · unfold clusterlockslaw11_step.f clusterlockslaw11_claim.f
      rw [if_neg (by rw [Int.tmod_eq_emod_of_nonneg h0]; exact c), Int.tdiv_eq_ediv_of_nonneg h0, w64_id (by omega) (by omega), proc_f, mod_f n 8 (by omega) (by omega)]
      rfl
    · unfold ins
      rw [if_pos h.VL, if_pos (show VW (mk n) = true ∧ (mk n).f3 = 0 from ⟨mk_vw n, rfl⟩)]
      show _ = some (if 0 ≤ Xw.idx_ (line_Find.p (mk n).f0.f0 (mk n).f0.f1 (mk n).f0.f2) l then (l, false, true) else if l.length = 8 then (l, false, true) else (put l (mk n), true, true))
      by_cases c2 : 0 ≤ Xw.idx_ (line_Find.p (mk n).f0.f0 (mk n).f0.f1 (mk n).f0.f2) l
      · rw [if_pos c2, if_pos c2]; rfl
      · rw [if_neg c2, if_neg c2]
        by_cases c3 : l.length = 8
        · rw [if_pos c3, if_pos c3]; rfl
        · rw [if_neg c3, if_neg c3]; rfl
theorem stp_ok (l : List S28) (n : Int) : (stp l n).2.2 = true := by
  unfold stp
  split
  · rfl
  · split
    · rfl
    · split <;> rfl
/-- The ways of a step: a part of the line, or the claim put in. -/
theorem stp_cases {l : List S28} (h : Gl l) (n : Int) : ((stp l n).2.1 = false ∧ Gl (stp l n).1 ∧ List.Sublist (stp l n).1 l) ∨ ((stp l n).2.1 = true ∧ (stp l n).1 = put l (mk n) ∧ Gl (put l (mk n)) ∧ (∀ x ∈ l, x.f0 ≠ (mk n).f0) ∧ l.length < 8) := by
  have h2 := Int.emod_lt_of_pos (n / 5) (by omega : (0 : Int) < 8)
  have h1 := Int.emod_nonneg (n / 5) (by omega : (8 : Int) ≠ 0)
  unfold stp
  by_cases c : n % 5 = 0
  · rw [if_pos c]
    exact .inl ⟨rfl, h.rest _ _ _, List.filter_sublist⟩
  · rw [if_neg c]
    by_cases c2 : 0 ≤ Xw.idx_ (line_Find.p (pr (n / 5 % 8).toNat).f0 (pr (n / 5 % 8).toNat).f1 (pr (n / 5 % 8).toNat).f2) l
    · rw [if_pos c2]
      exact .inl ⟨rfl, h, List.Sublist.refl _⟩
    · rw [if_neg c2]
      by_cases c3 : l.length = 8
      · rw [if_pos c3]
        exact .inl ⟨rfl, h, List.Sublist.refl _⟩
      · rw [if_neg c3]
        have hn := idx_no _ c2
        exact .inr ⟨rfl, rfl, h.put (mk_vw n) (m := (n / 5 % 8).toNat) (by omega) rfl hn c3, hn, by have := h.len; omega⟩
end Go.Proofs.Ytgomhoolipfkmaa.Pl

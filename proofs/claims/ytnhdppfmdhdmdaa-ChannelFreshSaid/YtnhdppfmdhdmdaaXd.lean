import Derived.Test.YtnhdppfmdhdmdaaXw
/-! 'append(x[:i:i], x[i+1:]...)' over a row of rows of the call's own: what is left, and the element that is taken out. -/
namespace Go.Proofs.Ytnhdppfmdhdmdaa.Xw
open Go Go.RowKit Go.Proofs.YtnhdppfmdhdmdaaW.PrintWords Go.Proofs.YtnhdppfmdhdmdaaW.PrintLast Go.Proofs.YtnhdppfmdhdmdaaW.PrintMore
set_option linter.unusedVariables false
set_option linter.unusedSimpArgs false
theorem S_parts {α : Type} {d : Kd α} {e base g n cap : Nat} {W : World} {ok : Nat → Prop} {xs : List α} (h : Kd.S d e W base ok (.slice (some ⟨g, 0, none⟩) n cap) xs) (h1 : d.sz = 1) (hp : 0 < xs.length) :
    ∃ (f : Nat → Nat) (inner : List Value), n = xs.length ∧ n ≤ cap ∧ base ≤ g ∧ g < W.heap.size ∧ ok g ∧ inner.length = xs.length ∧ (∀ j u, inner[j]? = some u → W.cell? ⟨g, j, none⟩ = some u) ∧
      (∀ j x, xs[j]? = some x → ∃ u, inner[j]? = some u ∧ d.M W base (fun k => (ok k ∧ k ≠ g) ∧ f k = j) x [u]) := by
  obtain ⟨f, h0, inner, ho, hr⟩ := h
  have hg : (Value.slice (some ⟨g, 0, none⟩) n cap).ownBlock = some g := rfl
  have hl : inner.length = xs.length := by
    have := hr.1
    rw [List.length_zipIdx] at this
    show inner.length = xs.length
    rw [this]
    show xs.length * d.sz = xs.length
    rw [h1, Nat.mul_one]
  have hcell : ∀ j u, inner[j]? = some u → W.cell? ⟨g, j, none⟩ = some u := fun j u hu => by
    have := ho.cells (g := g) hg _ u hu
    rwa [add_plain] at this
  obtain ⟨hlen, hcase⟩ := ho
  rcases hcase with ⟨hv, _⟩ | ⟨g', cap', cur, hv, hb, hh, hnc, hm, hsz, htk⟩
  · cases hv
  · injection hv with hv1 hv2 hv3
    injection hv1 with hv1
    injection hv1 with hv1
    subst hv1
    subst hv2
    subst hv3
    rw [List.length_zipIdx] at hnc ⊢
    refine ⟨f, inner, rfl, hnc, hb, (Array.getElem?_eq_some_iff.1 hh).1, h0 _ hg, hl, hcell, fun j x hj => ?_⟩
    have hjl : j < inner.length := by rw [hl]; exact (List.getElem?_eq_some_iff.1 hj).1
    refine ⟨inner[j], List.getElem?_eq_getElem hjl, ?_⟩
    have hM := hr.2 j (x, j) (Kd.zip_at hj)
    have he : (inner.drop (j * (Kd.tag f d).sz)).take (Kd.tag f d).sz = [inner[j]] := by
      show (inner.drop (j * d.sz)).take d.sz = [inner[j]]
      rw [h1, Nat.mul_one, List.drop_eq_getElem_cons hjl]
      rfl
    rw [he] at hM
    exact d.M_mono (fun k hk => ⟨⟨hk.1.1, fun e => hk.1.2 (by rw [e, hg])⟩, hk.2⟩) hM
theorem deliver_run {P : Program} {W : World} (t ty e e' : TypeId) {α : Type} (d' : Kd α) (bytes : Nat)
    (ht : P.underlying t = some (.slice e)) (hinfo : (P.info? e).map (fun i => (i.zero, i.size, i.bytes)) = some (some (.slice none 0 0), 1, bytes)) (hb0 : 0 < bytes)
    {base g n cap i c2 : Nat} {A : Option Addr} {xs : List (List α)} {ve : Value}
    (HO : Kd.S (Kd.slice e' d') e W base (fun _ => True) (.slice (some ⟨g, 0, none⟩) n cap) xs) (hi : i < n) (hc : W.cell? ⟨g, i, none⟩ = some ve)
    (hA : A = if cap = i + 1 then some ⟨g, 0, none⟩ else some ⟨g, i + 1, none⟩) (hl : n * bytes ≤ 140737488355328) :
    ∃ v1 w1, (Builtin.append_ #[t, t] ty #[.slice (some ⟨g, 0, none⟩) i i, .slice A (n - (i + 1)) c2]).run P W = .ok v1 w1 ∧ Kd.R d' e' w1 base (fun k => base ≤ k) ve (xs.getD i []) ∧
      Kd.V (Kd.slice e' d') e w1 base (fun k => base ≤ k ∧ some k ≠ ve.ownBlock) v1 (xs.take i ++ xs.drop (i + 1)) ∧ W.grownBy w1 none := by
  obtain ⟨i0, hinf, hzz⟩ := Option.map_eq_some_iff.1 hinfo
  simp only [Prod.mk.injEq] at hzz
  obtain ⟨hz0, hz1, hz2⟩ := hzz
  have hnx : n = xs.length := (Kd.S_reads' HO).1
  have HB := Kd.S_mono (ok' := fun k => base ≤ k) (Kd.S_bound HO) (fun k hk => hk.2.1)
  obtain ⟨f, inner, _, hncap, hbg, hglt, _, hil, hcell, hel⟩ := S_parts HB rfl (by omega)
  obtain ⟨ui, hui, hMi⟩ := hel i _ (List.getElem?_eq_getElem (show i < xs.length by omega))
  have huv : ui = ve := by
    have := (hcell i ui hui).symm.trans hc
    injection this
  subst huv
  have hgd' : xs.getD i [] = xs[i] := by rw [List.getD_eq_getElem?_getD, List.getElem?_eq_getElem (show i < xs.length by omega)]; rfl
  obtain ⟨vq, hvq, hRq⟩ := hMi
  have hvq : ui = vq := by
    have : [ui] = [vq] := hvq
    injection this
  subst hvq
  have hve : ∀ k, ui.ownBlock = some k → ((base ≤ k ∧ k ≠ g) ∧ f k = i) := hRq.1
  have hlen : n ≤ 140737488355328 := Nat.le_trans (Nat.le_mul_of_pos_right _ hb0) hl
  have hR0 : ∀ w1, Below W.heap.size W w1 → Kd.R d' e' w1 base (fun k => base ≤ k) ui (xs.getD i []) := fun w1 hb => by
    rw [hgd']
    exact Kd.R_below (Kd.R_mono hRq (fun k hk => hk.1.1)) hb
  rcases Nat.eq_or_lt_of_le (show i + 1 ≤ n from hi) with hlast | hmore
  · -- the last one: nothing is appended
    have hz : n - (i + 1) = 0 := by omega
    rw [hz]
    have hdrop : xs.drop (i + 1) = [] := List.drop_eq_nil_of_le (by omega)
    have hrun : (Builtin.append_ #[t, t] ty #[.slice (some ⟨g, 0, none⟩) i i, .slice A 0 c2]).run P W = .ok (.slice (some ⟨g, 0, none⟩) i i) W := by
      cases A <;> simp [Builtin.append_, run_underlying ht, sizeOf, typeInfo, hinf, Builtin.lenOf, Builtin.firstCells, loadCells, loadCellsFrom, storeCells]
    refine ⟨_, _, hrun, hR0 W (Below.refl _ _), ?_, World.grownBy.refl W _⟩
    rw [hdrop, List.append_nil]
    have hT := Kd.S_take (m := i) HB (by omega)
    have hT2 : Kd.S (Kd.slice e' d') e W base (fun k => base ≤ k ∧ some k ≠ ui.ownBlock) (.slice (some ⟨g, 0, none⟩) i cap) (xs.take i) := by
      obtain ⟨f0, h0, inn, own, reps⟩ := HB
      have hT3 : (Kd.tag f0 (Kd.slice e' d')).R e W base (fun k => base ≤ k) (.slice (some ⟨g, 0, none⟩) n cap) xs.zipIdx := ⟨h0, inn, own, reps⟩
      have hMi2 := reps.2 i (xs[i], i) (Kd.zip_at (List.getElem?_eq_getElem (show i < xs.length by omega)))
      have hin : inn[i]? = some ui := by
        have hin0 : i < inn.length := by
          have := reps.1
          rw [List.length_zipIdx] at this
          rw [this]
          show i < xs.length * 1
          omega
        rw [List.getElem?_eq_getElem hin0]
        have := own.cells (g := g) rfl i _ (List.getElem?_eq_getElem hin0)
        rw [add_plain] at this
        exact this.symm.trans hc
      have hcs : (inn.drop (i * (Kd.tag f0 (Kd.slice e' d')).sz)).take (Kd.tag f0 (Kd.slice e' d')).sz = [ui] := by
        show (inn.drop (i * 1)).take 1 = [ui]
        rw [Nat.mul_one, List.drop_eq_getElem_cons (List.getElem?_eq_some_iff.1 hin).1, (List.getElem?_eq_some_iff.1 hin).2]
        rfl
      rw [hcs] at hMi2
      obtain ⟨vq2, hvq2, hRq2⟩ := hMi2
      have hvq2 : ui = vq2 := by
        have : [ui] = [vq2] := hvq2
        injection this
      subst hvq2
      have hve2 : ∀ k, ui.ownBlock = some k → f0 k = i := fun k hk => (hRq2.1 k hk).2
      have h2 := Kd.R_take hT3 (m := i) (by rw [List.length_zipIdx]; omega)
      have hez : (xs.take i).zipIdx = xs.zipIdx.take i := by
        apply List.ext_getElem?
        intro j
        simp only [List.getElem?_zipIdx, List.getElem?_take, Nat.zero_add]
        split <;> simp
      refine ⟨f0, ?_⟩
      rw [hez]
      obtain ⟨h20, inn2, own2, reps2⟩ := h2
      refine ⟨fun k hk => ⟨h20 k hk, fun he => ?_⟩, inn2, own2, reps2.1, fun j p hj => ?_⟩
      · have hkg : k = g := by
          have : some g = some k := hk
          injection this with this
          exact this.symm
        subst hkg
        exact (hve k he.symm).1.2 rfl
      · have hM := reps2.2 j p hj
        have hj' : p.2 = j ∧ j < i := by
          rw [List.getElem?_take] at hj
          split at hj
          · rename_i hji
            rw [List.getElem?_zipIdx, Nat.zero_add] at hj
            obtain ⟨x, _, rfl⟩ := Option.map_eq_some_iff.1 hj
            exact ⟨rfl, hji⟩
          · cases hj
        exact (Kd.slice e' d').M_mono (fun k hk => ⟨⟨⟨hk.1.1, fun he => by have h3 := hve2 k he.symm; have h4 : f0 k = p.2 := hk.2; omega⟩, hk.1.2⟩, hk.2⟩) hM
    have hF := Kd.S_F hT2
    have hti : (xs.take i).length = i := by rw [List.length_take]; omega
    exact ⟨_, i, by rw [hti], by omega, by rw [hti]; exact hF⟩
  · -- a new row
    have hA' : A = some ⟨g, i + 1, none⟩ := by rw [hA, if_neg (by omega)]
    subst hA'
    have hle : (inner.take i).length = i * 1 := by rw [List.length_take]; omega
    have hlf : (inner.drop (i + 1)).length = (n - (i + 1)) * 1 := by rw [List.length_drop]; omega
    obtain ⟨v1, w1, hrun, hown, hgr⟩ := run_append_arg_grows (P := P) W t ty e i0 (.slice none 0 0) 1 bytes ht hinf hz0 hz1 hz2 rfl (by omega) ⟨g, 0, none⟩ i i (inner.take i) hle
      (fun j u hu => by
        rw [add_plain]
        refine hcell j u ?_
        rw [List.getElem?_take] at hu
        split at hu
        · exact hu
        · cases hu)
      ⟨g, i + 1, none⟩ (n - (i + 1)) c2 (inner.drop (i + 1)) hlf
      (fun j u hu => by
        rw [show (⟨g, i + 1, none⟩ : Addr).add j = ⟨g, i + 1 + j, none⟩ by simp [Addr.add]]
        rw [List.getElem?_drop] at hu
        exact hcell (i + 1 + j) u hu)
      (by omega) (by simp only [maxLen]; omega) (Nat.le_trans (Nat.mul_le_mul_right _ (by omega)) hl)
    have hbel : Below W.heap.size W w1 := (Below.refl _ _).grown hgr (Nat.le_refl _) (by simp)
    refine ⟨v1, w1, hrun, hR0 w1 hbel, ?_, hgr⟩
    have hbW : base ≤ W.heap.size := by omega
    have hv1 : ∀ k, v1.ownBlock = some k → W.heap.size ≤ k := fun k hk => (hown.lt k hk).1
    have hlr : (xs.take i ++ xs.drop (i + 1)).length = i + (n - (i + 1)) := by rw [List.length_append, List.length_take, List.length_drop]; omega
    have hown2 : w1.ownsRow base e 1 v1 (i + (n - (i + 1))) (inner.take i ++ inner.drop (i + 1)) := by
      obtain ⟨q1, q2⟩ := hown
      refine ⟨q1, q2.imp_right ?_⟩
      rintro ⟨g', cap', cur, r1, r2, r3⟩
      exact ⟨g', cap', cur, r1, by omega, r3⟩
    have hS : Kd.R (Kd.slice e' d') e w1 base (fun k => base ≤ k ∧ some k ≠ ui.ownBlock) v1 (xs.take i ++ xs.drop (i + 1)) := by
      refine ⟨fun k hk => ⟨Nat.le_trans hbW (hv1 k hk), fun he => ?_⟩, inner.take i ++ inner.drop (i + 1), by rw [hlr]; exact hown2, ?_, fun j p hj => ?_⟩
      · have h3 := Kd.R_lt hRq k he.symm
        have h4 := hv1 k hk
        omega
      · show (inner.take i ++ inner.drop (i + 1)).length = _ * 1
        rw [List.length_append, hle, hlf, hlr]
        omega
      · -- which element it was
        have hold : ∃ q, q ≠ i ∧ xs[q]? = some p ∧ (inner.take i ++ inner.drop (i + 1))[j]? = inner[q]? := by
          by_cases hji : j < i
          · refine ⟨j, by omega, ?_, ?_⟩
            · rw [List.getElem?_append_left (by rw [List.length_take]; omega), List.getElem?_take, if_pos hji] at hj
              exact hj
            · rw [List.getElem?_append_left (by rw [List.length_take]; omega), List.getElem?_take, if_pos hji]
          · refine ⟨j + 1, by omega, ?_, ?_⟩
            · rw [List.getElem?_append_right (by rw [List.length_take]; omega), List.getElem?_drop, List.length_take] at hj
              rw [← hj]
              congr 1
              omega
            · rw [List.getElem?_append_right (by rw [List.length_take]; omega), List.getElem?_drop, List.length_take]
              congr 1
              omega
        obtain ⟨q, hqi, hxq, hiq⟩ := hold
        obtain ⟨u, hu, hM⟩ := hel q p hxq
        have hcs : ((inner.take i ++ inner.drop (i + 1)).drop (j * (Kd.slice e' d').sz)).take (Kd.slice e' d').sz = [u] := by
          show ((inner.take i ++ inner.drop (i + 1)).drop (j * 1)).take 1 = [u]
          rw [hu] at hiq
          rw [Nat.mul_one, List.drop_eq_getElem_cons (List.getElem?_eq_some_iff.1 hiq).1, (List.getElem?_eq_some_iff.1 hiq).2]
          rfl
        rw [hcs]
        have hM1 := (Kd.slice e' d').M_bound hM
        have hM2 := (Kd.slice e' d').M_move (w1 := w1) (fun k hk => hbel.block k hk.2.2.1) hM1
        refine (Kd.slice e' d').M_mono (fun k hk => ⟨⟨hk.1.1.1, fun he => ?_⟩, fun he => ?_⟩) hM2
        · have h3 := (hve k he.symm).2
          have h4 : f k = q := hk.1.2
          omega
        · have h3 := hv1 k he.symm
          have h4 := hk.2.2.1
          omega
    obtain ⟨A1, c1, rfl⟩ := Kd.R_slice hS
    exact ⟨A1, c1, rfl, (Kd.R_reads' hS).2.1, Kd.R_F hS⟩
section
variable {P : Program} {ops : Array Oper} {rest : List Oper} {o : Oper} {a : Act} {Q : Exit → Act → World → Prop} {W : World} (t e e' : TypeId) {α : Type} (d' : Kd α) (bytes : Nat)
theorem deliver_append (hgd : o.guard = none) (s x : Operand)
    (ho : o.op = .call { callee := .builtin .append, args := #[s, x], argTypes := #[t, t] }) (ht : P.underlying t = some (.slice e)) (hinfo : (P.info? e).map (fun i => (i.zero, i.size, i.bytes)) = some (some (.slice none 0 0), 1, bytes)) (hb0 : 0 < bytes)
    {base g n cap i c2 : Nat} {A : Option Addr} {xs : List (List α)} {ve : Value}
    (HO : Kd.S (Kd.slice e' d') e W base (fun _ => True) (.slice (some ⟨g, 0, none⟩) n cap) xs) (hi : i < n) (hc : W.cell? ⟨g, i, none⟩ = some ve)
    (hs : a.eval s = .slice (some ⟨g, 0, none⟩) i i) (hx : a.eval x = .slice A (n - (i + 1)) c2) (hA : A = if cap = i + 1 then some ⟨g, 0, none⟩ else some ⟨g, i + 1, none⟩) (hl : n * bytes ≤ 140737488355328)
    (h : ∀ v1 w1, Kd.R d' e' w1 base (fun k => base ≤ k) ve (xs.getD i []) → Kd.V (Kd.slice e' d') e w1 base (fun k => base ≤ k ∧ some k ≠ ve.ownBlock) v1 (xs.take i ++ xs.drop (i + 1)) → W.grownBy w1 none → wpList P ops Q rest (a.put o.dst v1) w1) :
    wpList P ops Q (o :: rest) a W := by
  obtain ⟨v1, w1, hrun, hR, hV, hg⟩ := deliver_run (P := P) t o.type e e' d' bytes ht hinfo hb0 (c2 := c2) HO hi hc hA hl
  refine wpList_plain hgd fun K hK' => ?_
  unfold Oper.wp
  simp [execOp, ho, resolve, invoke, builtin, hs, hx, hrun, Result.andThen]
  exact hK' _ _ (h v1 w1 hR hV hg)
theorem deliver_append_step {Kc : Act → World → Prop} (hw : Region.wanted o (yielded ops a.tmps) = true) (s x : Operand)
    (ho : o.op = .call { callee := .builtin .append, args := #[s, x], argTypes := #[t, t] }) (ht : P.underlying t = some (.slice e)) (hinfo : (P.info? e).map (fun i => (i.zero, i.size, i.bytes)) = some (some (.slice none 0 0), 1, bytes)) (hb0 : 0 < bytes)
    {base g n cap i c2 : Nat} {A : Option Addr} {xs : List (List α)} {ve : Value}
    (HO : Kd.S (Kd.slice e' d') e W base (fun _ => True) (.slice (some ⟨g, 0, none⟩) n cap) xs) (hi : i < n) (hc : W.cell? ⟨g, i, none⟩ = some ve)
    (hs : a.eval s = .slice (some ⟨g, 0, none⟩) i i) (hx : a.eval x = .slice A (n - (i + 1)) c2) (hA : A = if cap = i + 1 then some ⟨g, 0, none⟩ else some ⟨g, i + 1, none⟩) (hl : n * bytes ≤ 140737488355328)
    (h : ∀ v1 w1, Kd.R d' e' w1 base (fun k => base ≤ k) ve (xs.getD i []) → Kd.V (Kd.slice e' d') e w1 base (fun k => base ≤ k ∧ some k ≠ ve.ownBlock) v1 (xs.take i ++ xs.drop (i + 1)) → W.grownBy w1 none → Kc (a.put o.dst v1) w1) :
    if Region.wanted o (yielded ops a.tmps) = true then Oper.wp P o a W Kc Q else Kc (a.put o.dst undef) W := by
  obtain ⟨v1, w1, hrun, hR, hV, hg⟩ := deliver_run (P := P) t o.type e e' d' bytes ht hinfo hb0 (c2 := c2) HO hi hc hA hl
  rw [if_pos hw]
  unfold Oper.wp
  simp [execOp, ho, resolve, invoke, builtin, hs, hx, hrun, Result.andThen]
  exact h v1 w1 hR hV hg
end
/-- What can be read now is read out of the blocks that there are. -/
theorem V_foot {α : Type} {d : Kd α} {e base : Nat} {W : World} {ok : Nat → Prop} {v : Value} {xs : List α} (hd : Kd.Heap d) (h : Kd.V d e W base ok v xs) : Kd.V d e W base (fun k => k < W.heap.size) v xs := by
  obtain ⟨A, c, hv, hl, hf⟩ := h
  exact ⟨A, c, hv, hl, Kd.C_F hd (Kd.F_now hf)⟩
theorem V_set {α : Type} {d : Kd α} {e base B g : Nat} {W : World} {v : Value} {xs : List α} (h : Kd.V d e W base (fun k => k < B) v xs) (hg : B ≤ g) (j : Nat) (u : Value) : Kd.V d e (W.setCell ⟨g, j, none⟩ u) base (fun k => k < B) v xs :=
  Kd.V_map h (fun _ hf => Kd.F_step hf (fun k hk _ => Below.heap_setCell W ⟨g, j, none⟩ u k (by show k ≠ g; omega)))
end Go.Proofs.Ytnhdppfmdhdmdaa.Xw

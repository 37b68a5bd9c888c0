import Derived.Test.YtefbcebpokoinaaXw
/-! An element's slice of what is read beside what is written; what else t08 lacks. -/
namespace Go.Proofs.Ytefbcebpokoinaa.Xw
open Go Go.RowKit Go.Proofs.YtefbcebpokoinaaW.PrintWords Go.Proofs.YtefbcebpokoinaaW.PrintLast Go.Proofs.YtefbcebpokoinaaW.PrintMore
set_option linter.unusedVariables false
theorem cell_set_self {W : World} {p : Addr} {v u : Value} (h : W.cell? p = some v) : (W.setCell p u).cell? p = some u := by
  unfold World.cell? at h ⊢
  split at h
  · rename_i c e f hb
    have hlt : p.block < W.heap.size := by
      by_cases hl : p.block < W.heap.size
      · exact hl
      · rw [Array.getElem?_eq_none (by omega)] at hb; cases hb
    split at h
    · cases h
    · rename_i hs
      have ho : p.off < c.size := by
        by_cases hl : p.off < c.size
        · exact hl
        · rw [Array.getElem?_eq_none (by omega)] at h; cases h
      rw [Array.getElem?_eq_getElem hlt] at hb
      injection hb with hb
      simp [World.setCell, hs, hlt, Array.getElem_modify, hb, ho]
  · cases h
/-- A call through a function value that is a bound method. -/
theorem goesF_ {P : Program} {ops : Array Oper} {rest : List Oper} {oi : Oper} {a : Act} {Q : Exit → Act → World → Prop} {w : World} (N : Option Tmp) (hd : oi.dst = N) (hg : oi.guard = none) {f : FuncId} {fn : Func} {x : Operand} {as_ : Array Operand} {ts : Array TypeId} (hf : P.funcs[f]? = some fn) (hname : (fn.name == "runtime.NumGoroutine") = false) (hb : fn.body.isSome = true) (first args cap all : Array Value) (hall : first ++ args ++ cap = all)
    (hop : oi.op = .call { callee := .value x, args := as_, argTypes := ts }) (hx : a.eval x = .func (.func f) first cap) (hargs : as_.map a.eval = args)
    (h : Calls P f all w fun e w' => ∃ v, e = .returned v ∧ wpList P ops Q rest (a.put N v) w') : wpList P ops Q (oi :: rest) a w := by
  subst hall
  refine wpList_plain hg fun K hK => ?_
  have he := enters_ hf hname hb (first ++ args ++ cap) w
  have hrun : (execOp a.eval oi).run P w = .ok (.enter f (first ++ args ++ cap)) w := by
    unfold execOp
    simpa [hop, resolve, Deferred.ofValue, invoke, hx, hargs] using he
  unfold Oper.wp
  rw [hrun, Oper.upon_enter]
  refine h.mono fun e w'' hh => ?_
  obtain ⟨v, rfl, hk⟩ := hh
  subst hd
  exact hK _ _ hk
section
variable {α β : Type} {d : Kd α} {d' : Kd β} {w W : World} {n c' : Nat} {A A' : Option Addr} {xs : List α} {ys : List β} {p : Addr}
theorem foot_elem {g : Nat} (HR : ∀ W_, KeepBut w W_ g none → Kd.C d W_ A n xs) (HK : KeepBut w W g none) (hx : W.cell? p = some (.slice A' ys.length c')) (ex : ∀ W_, Kd.C d W_ A n xs → ∃ A2 c2, W_.cell? p = some (.slice A2 ys.length c2) ∧ Kd.C d' W_ A2 ys.length ys) : ∀ W_, KeepBut w W_ g none → Kd.C d' W_ A' ys.length ys := by
  intro W_ hk
  obtain ⟨A0, c0, h0, _⟩ := ex w (HR w (KeepBut.refl w g none))
  have ne : p.block ≠ g := by
    intro e
    obtain ⟨A1, c1, h1, _⟩ := ex _ (HR (w.setCell p (.bool true)) ⟨by simp [World.setCell], fun i _ hg _ => Below.heap_setCell w p _ i (by rw [e]; exact hg)⟩)
    have := h1.symm.trans (cell_set_self h0)
    cases this
  obtain ⟨A2, c2, h2, hC⟩ := ex W_ (HR W_ hk)
  have e1 := (keep_cell HK h0 ne).symm.trans hx
  have e2 := (keep_cell hk h0 ne).symm.trans h2
  injection e1 with e1; injection e1 with e1
  injection e2 with e2; injection e2 with e2
  rw [← e1, e2]
  exact hC
theorem foot_elemK {S : Nat → Prop} (HR : ∀ W_, Kept w W_ S → Kd.C d W_ A n xs) (HK : Kept w W S) (hx : W.cell? p = some (.slice A' ys.length c')) (ex : ∀ W_, Kd.C d W_ A n xs → ∃ A2 c2, W_.cell? p = some (.slice A2 ys.length c2) ∧ Kd.C d' W_ A2 ys.length ys) : ∀ W_, Kept w W_ S → Kd.C d' W_ A' ys.length ys := by
  intro W_ hk
  obtain ⟨A0, c0, h0, _⟩ := ex w (HR w (Kept.refl w S))
  have ne : ¬ S p.block := by
    intro e
    obtain ⟨A1, c1, h1, _⟩ := ex _ (HR (w.setCell p (.bool true)) ((Kept.refl w S).setCell (.inl e) _))
    have := h1.symm.trans (cell_set_self h0)
    cases this
  obtain ⟨A2, c2, h2, hC⟩ := ex W_ (HR W_ hk)
  have e1 := (cell_kept h0 HK ne).symm.trans hx
  have e2 := (cell_kept h0 hk ne).symm.trans h2
  injection e1 with e1; injection e1 with e1
  injection e2 with e2; injection e2 with e2
  rw [← e1, e2]
  exact hC
end
/-- 'copy(a, b)' as lists. -/
def cpyL {α : Type} (a b : List α) : List α := b.take a.length ++ a.drop b.length
section
variable {α : Type} {enc : α → Value} {h1 : ∀ x, (enc x).oneCell' = true} {e base g n cap : Nat} {ok : Nat → Prop}
theorem R_setcells : ∀ (bs : List α) (o : Nat) (W : World) (xs : List α), (Kd.scalar enc h1).R e W base ok (.slice (some ⟨g, 0, none⟩) n cap) xs → o + bs.length ≤ xs.length →
    (Kd.scalar enc h1).R e (W.setCells g o (bs.map enc)) base ok (.slice (some ⟨g, 0, none⟩) n cap) (xs.take o ++ bs ++ xs.drop (o + bs.length)) ∧ W.grownBy (W.setCells g o (bs.map enc)) (some g)
  | [], o, W, xs, h, _ => ⟨by simpa [World.setCells] using h, World.grownBy.refl W _⟩
  | b :: r, o, W, xs, h, hl => by
    have hl' : o + (r.length + 1) ≤ xs.length := by simpa using hl
    obtain ⟨h2, h3⟩ := Kd.R_putg h (o : Int) b
    rw [Int.toNat_natCast] at h2 h3
    obtain ⟨h4, h5⟩ := R_setcells r (o + 1) _ _ h2 (by rw [List.length_set]; omega)
    refine ⟨?_, World.grownBy.trans h3 h5⟩
    have e1 : xs.take o ++ (b :: r) ++ xs.drop (o + (b :: r).length) = (xs.set o b).take (o + 1) ++ r ++ (xs.set o b).drop (o + 1 + r.length) := by
      rw [List.drop_set_of_lt (by omega), List.take_add_one, List.getElem?_set_self (by omega), List.take_set_of_le (Nat.le_refl o)]
      simp
      congr 1
      omega
    rw [e1]
    exact h4
theorem R_copy {P : Program} {W : World} (t ty : TypeId) {el : TypeId} {z : Value} {bytes : Nat} (ht : P.underlying t = some (.slice el)) (hinfo : (P.info? el).map (fun i => (i.zero, i.size, i.bytes)) = some (some z, 1, bytes))
    {A : Option Addr} {c2 : Nat} {xs ys : List α} (HO : (Kd.scalar enc h1).R e W base ok (.slice (some ⟨g, 0, none⟩) n cap) xs) (HS : (Kd.scalar enc h1).C W A ys.length ys) :
    ∃ k W', (Builtin.copy_ #[t, t] ty #[.slice (some ⟨g, 0, none⟩) n cap, .slice A ys.length c2]).run P W = .ok (goInt k) W' ∧ (Kd.scalar enc h1).R e W' base ok (.slice (some ⟨g, 0, none⟩) n cap) (cpyL xs ys) ∧ W.grownBy W' (some g) := by
  obtain ⟨hn, hnc, hrd⟩ := Kd.R_reads' HO
  have hs : (P.info? el).map (·.size) = some 1 := by
    cases hq : P.info? el with
    | none => simp [hq] at hinfo
    | some i => simp [hq] at hinfo; simp [hinfo.2.1]
  by_cases h0 : Nat.min ys.length n = 0
  · refine ⟨0, W, run_copy_none (P := P) W t t ty el _ _ n cap ys.length c2 ht hs h0, ?_, World.grownBy.refl W _⟩
    have e0 : cpyL xs ys = xs := by
      unfold cpyL
      rcases Nat.eq_zero_or_pos ys.length with h | h
      · rw [List.eq_nil_of_length_eq_zero h]; simp
      · have : n = 0 := by
          have := Nat.min_def (m := n) (n := ys.length)
          unfold Nat.min at h0
          rw [Nat.min_def] at h0
          split at h0 <;> omega
        rw [hn] at this
        rw [List.eq_nil_of_length_eq_zero this]; simp
    rw [e0]
    exact HO
  · have hy : 0 < ys.length := by
      rcases Nat.eq_zero_or_pos ys.length with h | h
      · exact absurd (by rw [h]; exact Nat.zero_min n) h0
      · exact h
    obtain ⟨_, _, hC⟩ := HS
    obtain ⟨ad, rfl, hc⟩ := hC hy
    obtain ⟨h2, h3⟩ := R_setcells (ys.take n) 0 W xs HO (by rw [List.length_take, ← hn]; omega)
    have hcell : ∀ j, j < ((ys.take n).map enc).length → (W.cell? ⟨g, 0 + j, none⟩).isSome = true ∧ W.frozen? ⟨g, 0 + j, none⟩ = false := fun j hj => by
      rw [List.length_map, List.length_take] at hj
      have h := Kd.R_celln (match xs with | [] => ys[0] | x :: _ => x) HO (j : Int) (by omega) (by omega)
      rw [Int.toNat_natCast] at h
      rw [Nat.zero_add]
      exact ⟨by rw [h.1]; rfl, h.2⟩
    refine ⟨((ys.take n).map enc).length, W.setCells g 0 ((ys.take n).map enc), ?_, ?_, h3⟩
    · refine run_copy_cells (P := P) W t t ty el g 0 n cap ad ys.length c2 ((ys.take n).map enc) ht hs ?_ ?_ (fun j hj => (hcell j hj).1) (fun j hj => (hcell j hj).2) (fun v hv => ?_)
      · rw [List.length_map, List.length_take]
        exact Nat.min_comm n ys.length
      · intro j v hv
        rw [List.getElem?_map] at hv
        cases hq : (ys.take n)[j]? with
        | none => rw [hq] at hv; cases hv
        | some y =>
          rw [hq] at hv
          injection hv with hv
          subst hv
          have hy2 : ys[j]? = some y := by
            rw [List.getElem?_take] at hq
            split at hq
            · exact hq
            · cases hq
          obtain ⟨cs, h5, h6, h7⟩ := hc j y hy2
          have h6' : cs = [enc y] := h6
          subst h6'
          have := h7 0 _ rfl
          simpa [Kd.scalar] using this
      · obtain ⟨x, _, rfl⟩ := List.mem_map.1 hv
        exact h1 x
    · have e2 : cpyL xs ys = xs.take 0 ++ ys.take n ++ xs.drop (0 + (ys.take n).length) := by
        unfold cpyL
        rw [← hn, List.take_zero, List.nil_append, Nat.zero_add, List.length_take]
        congr 1
        rcases Nat.le_total n ys.length with h | h
        · rw [Nat.min_eq_left h, List.drop_eq_nil_of_le (by omega), List.drop_eq_nil_of_le (by omega)]
        · rw [Nat.min_eq_right h]
      rw [e2]
      exact h2
theorem R_copy_ev {P : Program} {ops : Array Oper} {rest : List Oper} {o : Oper} {a : Act} {Q : Exit → Act → World → Prop} {w0 W : World} (hgd : o.guard = none) (s x : Operand) (t el : TypeId)
    (ho : o.op = .call { callee := .builtin .copy, args := #[s, x], argTypes := #[t, t] }) {z : Value} {bytes : Nat} (ht : P.underlying t = some (.slice el)) (hinfo : (P.info? el).map (fun i => (i.zero, i.size, i.bytes)) = some (some z, 1, bytes))
    {Ao A : Option Addr} {c2 : Nat} {xs ys : List α} (hs : a.eval s = .slice Ao n cap) (hx : a.eval x = .slice A ys.length c2)
    (HO : (Kd.scalar enc h1).R e W base ok (.slice Ao n cap) xs) (HS : (Kd.scalar enc h1).C W A ys.length ys) (HB : Below base w0 W) (hbase : base ≤ W.heap.size)
    (h : ∀ k w1, (Kd.scalar enc h1).R e w1 base ok (.slice Ao n cap) (cpyL xs ys) → Below base w0 w1 → W.grownBy w1 (Value.slice Ao n cap).ownBlock → wpList P ops Q rest (a.put o.dst (goInt k)) w1) : wpList P ops Q (o :: rest) a W := by
  have key : ∃ k W', (Builtin.copy_ #[t, t] o.type #[.slice Ao n cap, .slice A ys.length c2]).run P W = .ok (goInt k) W' ∧ (Kd.scalar enc h1).R e W' base ok (.slice Ao n cap) (cpyL xs ys) ∧ W.grownBy W' (Value.slice Ao n cap).ownBlock := by
    have HO' := HO
    obtain ⟨hok, inner, hown, hr⟩ := HO
    obtain ⟨hil, hown2⟩ := hown
    rcases hown2 with ⟨hv, hn0⟩ | ⟨g', cap', cur, he, _⟩
    · injection hv with hv1 hv2 hv3
      subst hv1; subst hv2
      have hs1 : (P.info? el).map (·.size) = some 1 := by
        cases hq : P.info? el with
        | none => simp [hq] at hinfo
        | some i => simp [hq] at hinfo; simp [hinfo.2.1]
      have hx0 : xs = [] := List.eq_nil_of_length_eq_zero (Kd.R_reads' HO').1.symm
      subst hx0
      exact ⟨0, W, run_copy_none (P := P) W t t o.type el _ _ 0 cap ys.length c2 ht hs1 (Nat.min_zero _), by simpa [cpyL] using HO', World.grownBy.refl W _⟩
    · injection he with he1 he2 he3
      subst he1
      exact R_copy (P := P) t o.type (c2 := c2) ht hinfo HO' HS
  obtain ⟨k, W', hrun, hR, hg⟩ := key
  obtain ⟨_, inner, hown, _⟩ := HO
  refine Kd.event_run hgd (w1 := W') (v := goInt k) ?_ (h k W' hR (HB.grown hg hbase (own_base hown)) hg)
  unfold execOp
  simp [ho, resolve, invoke, builtin, hs, hx, hrun, Result.andThen]
end
end Go.Proofs.Ytefbcebpokoinaa.Xw

-- Laid by a program of this session's (xrow.py).
import Derived.Test.YtefbcebpokoinaaXr
import Derived.Test.YtefbcebpokoinaaY0
namespace Go.Proofs.Ytefbcebpokoinaa.Y
open Go.RowKit Go.Proofs.YtefbcebpokoinaaW.PrintWords Go.Proofs.YtefbcebpokoinaaW.PrintLast Go.Proofs.YtefbcebpokoinaaW.PrintMore
set_option linter.unusedVariables false
set_option linter.unusedSimpArgs false
theorem opens_sliceN {α : Type} {P : Program} {t e : TypeId} {d : Kd α} {wf : α → Prop} {B : α → Nat} (ht : P.underlying t = some (.slice e)) (hc : P.cellsOf e = d.sz) (he : ∀ m, Xr.OpensAt P e d wf B m) :
  ∀ n, Xr.OpensAt P t (Kd.slice e d) (fun l => l.length ≤ maxLen ∧ ∀ x ∈ l, wf x) (fun l => l.length + (l.map B).sum) n
 | 0 => Xr.OpensAt.zero
 | n + 1 => Xr.opens_slice ht hc n (he n)
theorem opens_sliceF {α : Type} {P : Program} {t e : TypeId} {d : Kd α} {wf : Nat → α → Prop} {B : Nat → α → Nat} (ht : P.underlying t = some (.slice e)) (hc : P.cellsOf e = d.sz) (he : ∀ m, Xr.OpensAt P e d (wf m) (B m) m) :
  ∀ n, Xr.OpensAt P t (Kd.slice e d) (fun l => l.length ≤ maxLen ∧ ∀ x ∈ l, wf (n - 1) x) (fun l => l.length + (l.map (B (n - 1))).sum) n
 | 0 => Xr.OpensAt.zero
 | n + 1 => Xr.opens_slice ht hc n (he n)
def w23 (x : S23) : Prop := (Lit.int .i64 x.f0).wf = true ∧ (Lit.int .i64 x.f1).wf = true
def b23 (x : S23) : Nat := 0 + 0
theorem o23 : ∀ n, Xr.OpensAt Try.prog 23 k23 w23 b23 n
 | 0 => Xr.OpensAt.zero
 | n + 1 => by
  intro enc W base spare held cs x h
  obtain ⟨hl, xs, hm, hx⟩ := Xr.opens_fields Try.underlying23 h
  rw [show Try.prog.cellsOf 23 = 2 from by kernel_rfl] at hl
  obtain ⟨y0, ys0, h0, hm0, rfl⟩ := Xr.mapM_cons_some hm
  obtain ⟨y1, ys1, h1, hm1, rfl⟩ := Xr.mapM_cons_some hm0
  obtain rfl := Xr.mapM_nil_some hm1
  obtain ⟨c0, c1, rfl⟩ : ∃ c0 c1, cs = [c0, c1] := by
   match cs, hl with
   | [c0, c1], _ => exact ⟨c0, c1, rfl⟩
  have h0 : DataW.trod enc Try.prog W base spare held n 3 [c0] = some y0 := by
   have e_ := h0
   rw [show Try.prog.cellsOf 3 = 1 from by kernel_rfl] at e_
   exact e_
  obtain ⟨a0, g0, v0, q0⟩ := (Xr.opens_int Try.underlying3 n) enc W base spare held _ _ h0
  have e0 : [c0] = [Value.int .i64 a0] := g0
  injection e0 with e0 _
  subst e0
  have h1 : DataW.trod enc Try.prog W base spare held n 3 [c1] = some y1 := by
   have e_ := h1
   rw [show Try.prog.cellsOf 3 = 1 from by kernel_rfl] at e_
   exact e_
  obtain ⟨a1, g1, v1, q1⟩ := (Xr.opens_int Try.underlying3 n) enc W base spare held _ _ h1
  have e1 : [c1] = [Value.int .i64 a1] := g1
  injection e1 with e1 _
  subst e1
  (try dsimp only at q0)
  (try dsimp only at q1)
  refine ⟨(⟨a0, a1⟩ : S23), k23_mk W (⟨a0, a1⟩ : S23) , ?_, ?_⟩
  ·exact ⟨v0, v1⟩
  ·rw [hx]
   simp only [List.map_cons, List.map_nil, Rows.uptoBulk, Rows.uptoBulkAll, b23]
   omega
def w25 (x : S25) : Prop := x.f0.size ≤ maxLen ∧ w23 x.f1
def b25 (x : S25) : Nat := x.f0.size + b23 x.f1
theorem o25 : ∀ n, Xr.OpensAt Try.prog 25 k25 w25 b25 n
 | 0 => Xr.OpensAt.zero
 | n + 1 => by
  intro enc W base spare held cs x h
  obtain ⟨hl, xs, hm, hx⟩ := Xr.opens_fields Try.underlying25 h
  rw [show Try.prog.cellsOf 25 = 3 from by kernel_rfl] at hl
  obtain ⟨y0, ys0, h0, hm0, rfl⟩ := Xr.mapM_cons_some hm
  obtain ⟨y1, ys1, h1, hm1, rfl⟩ := Xr.mapM_cons_some hm0
  obtain rfl := Xr.mapM_nil_some hm1
  obtain ⟨c0, c1, c2, rfl⟩ : ∃ c0 c1 c2, cs = [c0, c1, c2] := by
   match cs, hl with
   | [c0, c1, c2], _ => exact ⟨c0, c1, c2, rfl⟩
  have h0 : DataW.trod enc Try.prog W base spare held n 9 [c0] = some y0 := by
   have e_ := h0
   rw [show Try.prog.cellsOf 9 = 1 from by kernel_rfl] at e_
   exact e_
  obtain ⟨a0, g0, v0, q0⟩ := (Xr.opens_string Try.underlying9 n) enc W base spare held _ _ h0
  have e0 : [c0] = [Value.string a0] := g0
  injection e0 with e0 _
  subst e0
  have h1 : DataW.trod enc Try.prog W base spare held n 23 [c1, c2] = some y1 := by
   have e_ := h1
   rw [show Try.prog.cellsOf 23 = 2 from by kernel_rfl] at e_
   exact e_
  obtain ⟨a1, g1, v1, q1⟩ := (o23 n) enc W base spare held _ _ h1
  obtain e1 := k23_open g1
  simp only [List.cons.injEq, and_true] at e1
  obtain ⟨rfl, rfl⟩ := e1
  (try dsimp only at q0)
  (try dsimp only at q1)
  refine ⟨(⟨a0, a1⟩ : S25), k25_mk W (⟨a0, a1⟩ : S25) , ?_, ?_⟩
  ·exact ⟨v0, v1⟩
  ·rw [hx]
   simp only [List.map_cons, List.map_nil, Rows.uptoBulk, Rows.uptoBulkAll, b25]
   omega
/-- Well formed, so many levels deep (two for a level). -/
def w28 : Nat → S28 → Prop
 | 0, _ => False
 | 1, _ => False
 | n + 2, x => (Lit.int .i64 x.f0).wf = true ∧ w25 x.f1 ∧ (x.f2.length ≤ maxLen ∧ ∀ y ∈ x.f2, w28 n y)
def b28 : Nat → S28 → Nat
 | 0, _ => 0
 | 1, _ => 0
 | n + 2, x => 0 + b25 x.f1 + (x.f2.length + (x.f2.map (b28 n)).sum)
theorem o28 : ∀ n, Xr.OpensAt Try.prog 28 k28 (w28 n) (b28 n) n
 | 0 => Xr.OpensAt.zero
 | 1 => by
  intro enc W base spare held cs x h
  obtain ⟨hl, xs, hm, hx⟩ := Xr.opens_fields Try.underlying28 h
  obtain ⟨y0, ys, h0, _, _⟩ := Xr.mapM_cons_some hm
  simp [DataW.trod] at h0
 | n + 2 => by
  intro enc W base spare held cs x h
  obtain ⟨hl, xs, hm, hx⟩ := Xr.opens_fields Try.underlying28 h
  rw [show Try.prog.cellsOf 28 = 5 from by kernel_rfl] at hl
  obtain ⟨y0, ys0, h0, hm0, rfl⟩ := Xr.mapM_cons_some hm
  obtain ⟨y1, ys1, h1, hm1, rfl⟩ := Xr.mapM_cons_some hm0
  obtain ⟨y2, ys2, h2, hm2, rfl⟩ := Xr.mapM_cons_some hm1
  obtain rfl := Xr.mapM_nil_some hm2
  obtain ⟨c0, c1, c2, c3, c4, rfl⟩ : ∃ c0 c1 c2 c3 c4, cs = [c0, c1, c2, c3, c4] := by
   match cs, hl with
   | [c0, c1, c2, c3, c4], _ => exact ⟨c0, c1, c2, c3, c4, rfl⟩
  have h0 : DataW.trod enc Try.prog W base spare held (n + 1) 3 [c0] = some y0 := by
   have e_ := h0
   rw [show Try.prog.cellsOf 3 = 1 from by kernel_rfl] at e_
   exact e_
  obtain ⟨a0, g0, v0, q0⟩ := (Xr.opens_int Try.underlying3 (n + 1)) enc W base spare held _ _ h0
  have e0 : [c0] = [Value.int .i64 a0] := g0
  injection e0 with e0 _
  subst e0
  have h1 : DataW.trod enc Try.prog W base spare held (n + 1) 25 [c1, c2, c3] = some y1 := by
   have e_ := h1
   rw [show Try.prog.cellsOf 25 = 3 from by kernel_rfl] at e_
   exact e_
  obtain ⟨a1, g1, v1, q1⟩ := (o25 (n + 1)) enc W base spare held _ _ h1
  obtain e1 := k25_open g1
  simp only [List.cons.injEq, and_true] at e1
  obtain ⟨rfl, rfl, rfl⟩ := e1
  have h2 : DataW.trod enc Try.prog W base spare held (n + 1) 26 [c4] = some y2 := by
   have e_ := h2
   rw [show Try.prog.cellsOf 26 = 1 from by kernel_rfl] at e_
   exact e_
  obtain ⟨a2, g2, v2, q2⟩ := Xr.opens_slice (P := Try.prog) Try.underlying26 (by kernel_rfl) n (o28 n) enc W base spare held _ _ h2
  obtain ⟨A2, cc2, e2, l2, C2⟩ := g2
  injection e2 with e2 _
  subst e2
  (try dsimp only at q0)
  (try dsimp only at q1)
  (try dsimp only at q2)
  refine ⟨(⟨a0, a1, a2⟩ : S28), k28_mk W (⟨a0, a1, a2⟩ : S28) l2 C2, ?_, ?_⟩
  ·exact ⟨v0, v1, v2⟩
  ·rw [hx]
   simp only [List.map_cons, List.map_nil, Rows.uptoBulk, Rows.uptoBulkAll, b28]
   omega
def w59 (x : S59) : Prop := x.f0.size ≤ maxLen ∧ (Lit.int .i64 x.f1).wf = true ∧ (Lit.int .i64 x.f2).wf = true ∧ (Lit.int .i64 x.f3).wf = true
def b59 (x : S59) : Nat := x.f0.size + 0 + 0 + 0
theorem o59 : ∀ n, Xr.OpensAt Try.prog 59 k59 w59 b59 n
 | 0 => Xr.OpensAt.zero
 | n + 1 => by
  intro enc W base spare held cs x h
  obtain ⟨hl, xs, hm, hx⟩ := Xr.opens_fields Try.underlying59 h
  rw [show Try.prog.cellsOf 59 = 4 from by kernel_rfl] at hl
  obtain ⟨y0, ys0, h0, hm0, rfl⟩ := Xr.mapM_cons_some hm
  obtain ⟨y1, ys1, h1, hm1, rfl⟩ := Xr.mapM_cons_some hm0
  obtain ⟨y2, ys2, h2, hm2, rfl⟩ := Xr.mapM_cons_some hm1
  obtain ⟨y3, ys3, h3, hm3, rfl⟩ := Xr.mapM_cons_some hm2
  obtain rfl := Xr.mapM_nil_some hm3
  obtain ⟨c0, c1, c2, c3, rfl⟩ : ∃ c0 c1 c2 c3, cs = [c0, c1, c2, c3] := by
   match cs, hl with
   | [c0, c1, c2, c3], _ => exact ⟨c0, c1, c2, c3, rfl⟩
  have h0 : DataW.trod enc Try.prog W base spare held n 9 [c0] = some y0 := by
   have e_ := h0
   rw [show Try.prog.cellsOf 9 = 1 from by kernel_rfl] at e_
   exact e_
  obtain ⟨a0, g0, v0, q0⟩ := (Xr.opens_string Try.underlying9 n) enc W base spare held _ _ h0
  have e0 : [c0] = [Value.string a0] := g0
  injection e0 with e0 _
  subst e0
  have h1 : DataW.trod enc Try.prog W base spare held n 3 [c1] = some y1 := by
   have e_ := h1
   rw [show Try.prog.cellsOf 3 = 1 from by kernel_rfl] at e_
   exact e_
  obtain ⟨a1, g1, v1, q1⟩ := (Xr.opens_int Try.underlying3 n) enc W base spare held _ _ h1
  have e1 : [c1] = [Value.int .i64 a1] := g1
  injection e1 with e1 _
  subst e1
  have h2 : DataW.trod enc Try.prog W base spare held n 3 [c2] = some y2 := by
   have e_ := h2
   rw [show Try.prog.cellsOf 3 = 1 from by kernel_rfl] at e_
   exact e_
  obtain ⟨a2, g2, v2, q2⟩ := (Xr.opens_int Try.underlying3 n) enc W base spare held _ _ h2
  have e2 : [c2] = [Value.int .i64 a2] := g2
  injection e2 with e2 _
  subst e2
  have h3 : DataW.trod enc Try.prog W base spare held n 3 [c3] = some y3 := by
   have e_ := h3
   rw [show Try.prog.cellsOf 3 = 1 from by kernel_rfl] at e_
   exact e_
  obtain ⟨a3, g3, v3, q3⟩ := (Xr.opens_int Try.underlying3 n) enc W base spare held _ _ h3
  have e3 : [c3] = [Value.int .i64 a3] := g3
  injection e3 with e3 _
  subst e3
  (try dsimp only at q0)
  (try dsimp only at q1)
  (try dsimp only at q2)
  (try dsimp only at q3)
  refine ⟨(⟨a0, a1, a2, a3⟩ : S59), k59_mk W (⟨a0, a1, a2, a3⟩ : S59) , ?_, ?_⟩
  ·exact ⟨v0, v1, v2, v3⟩
  ·rw [hx]
   simp only [List.map_cons, List.map_nil, Rows.uptoBulk, Rows.uptoBulkAll, b59]
   omega
end Go.Proofs.Ytefbcebpokoinaa.Y

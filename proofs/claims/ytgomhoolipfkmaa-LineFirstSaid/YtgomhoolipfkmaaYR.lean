-- Laid by a program of this session's (xrow.py).
import Derived.Test.YtgomhoolipfkmaaXr
import Derived.Test.YtgomhoolipfkmaaY0
namespace Go.Proofs.Ytgomhoolipfkmaa.Y
open Go.RowKit Go.Proofs.YtgomhoolipfkmaaW.PrintWords Go.Proofs.YtgomhoolipfkmaaW.PrintLast Go.Proofs.YtgomhoolipfkmaaW.PrintMore
set_option linter.unusedVariables false
set_option linter.unusedSimpArgs false
theorem opens_sliceN {α : Type} {P : Program} {t e : TypeId} {d : Kd α} {wf : α → Prop} {B : α → Nat} (ht : P.underlying t = some (.slice e)) (hc : P.cellsOf e = d.sz) (he : ∀ m, Xr.OpensAt P e d wf B m) :
  ∀ n, Xr.OpensAt P t (Kd.slice e d) (fun l => l.length ≤ maxLen ∧ ∀ x ∈ l, wf x) (fun l => l.length + (l.map B).sum) n
 | 0 => Xr.OpensAt.zero
 | n + 1 => Xr.opens_slice ht hc n (he n)
theorem opens_sliceF {α : Type} {P : Program} {t e : TypeId} {d : Kd α} {wf : Nat → α → Prop} {B : Nat → α → Nat} (ht : P.underlying t = some (.slice e)) (hc : P.cellsOf e = d.sz) (he : ∀ m, Xr.OpensAt P e d (wf m) (B m) m) :
  ∀ n, Xr.OpensAt P t (Kd.slice e d) (fun l => l.length ≤ maxLen ∧ ∀ x ∈ l, wf (n - 1) x) (fun l => l.length + (l.map (B (n - 1))).sum) n
 | 0 => Xr.OpensAt.zero
 | n + 1 => Xr.opens_slice ht hc n (he n)
def w24 (x : S24) : Prop := (Lit.int .i64 x.f0).wf = true ∧ (Lit.int .i64 x.f1).wf = true ∧ (Lit.int .i64 x.f2).wf = true
def b24 (x : S24) : Nat := 0 + 0 + 0
theorem o24 : ∀ n, Xr.OpensAt Try.prog 24 k24 w24 b24 n
 | 0 => Xr.OpensAt.zero
 | n + 1 => by
  intro enc W base spare held cs x h
  obtain ⟨hl, xs, hm, hx⟩ := Xr.opens_fields Try.underlying24 h
  rw [show Try.prog.cellsOf 24 = 3 from by kernel_rfl] at hl
  obtain ⟨y0, ys0, h0, hm0, rfl⟩ := Xr.mapM_cons_some hm
  obtain ⟨y1, ys1, h1, hm1, rfl⟩ := Xr.mapM_cons_some hm0
  obtain ⟨y2, ys2, h2, hm2, rfl⟩ := Xr.mapM_cons_some hm1
  obtain rfl := Xr.mapM_nil_some hm2
  obtain ⟨c0, c1, c2, rfl⟩ : ∃ c0 c1 c2, cs = [c0, c1, c2] := by
   match cs, hl with
   | [c0, c1, c2], _ => exact ⟨c0, c1, c2, rfl⟩
  have h0 : DataW.trod enc Try.prog W base spare held n 3 [c0] = some y0 := by
   have e_ := h0
   rw [show Try.prog.cellsOf 3 = 1 from by kernel_rfl] at e_
   exact e_
  obtain ⟨a0, g0, v0, q0⟩ := (Xr.opens_int Try.underlying3 n) enc W base spare held _ _ h0
  have e0 : [c0] = [Value.int .i64 a0] := g0
  injection e0 with e0 _
  subst e0
  have h1 : DataW.trod enc Try.prog W base spare held n 3 [c1] = some y1 := by
   have e_ := h1
   rw [show Try.prog.cellsOf 3 = 1 from by kernel_rfl] at e_
   exact e_
  obtain ⟨a1, g1, v1, q1⟩ := (Xr.opens_int Try.underlying3 n) enc W base spare held _ _ h1
  have e1 : [c1] = [Value.int .i64 a1] := g1
  injection e1 with e1 _
  subst e1
  have h2 : DataW.trod enc Try.prog W base spare held n 3 [c2] = some y2 := by
   have e_ := h2
   rw [show Try.prog.cellsOf 3 = 1 from by kernel_rfl] at e_
   exact e_
  obtain ⟨a2, g2, v2, q2⟩ := (Xr.opens_int Try.underlying3 n) enc W base spare held _ _ h2
  have e2 : [c2] = [Value.int .i64 a2] := g2
  injection e2 with e2 _
  subst e2
  refine ⟨(⟨a0, a1, a2⟩ : S24), k24_mk W (⟨a0, a1, a2⟩ : S24) , ?_, ?_⟩
  ·exact ⟨v0, v1, v2⟩
  ·rw [hx]
   simp only [List.map_cons, List.map_nil, Rows.uptoBulk, Rows.uptoBulkAll, b24]
   omega
def w26 (x : S26) : Prop := (Lit.int .i64 x.f0).wf = true ∧ (Lit.int .i64 x.f1).wf = true
def b26 (x : S26) : Nat := 0 + 0
theorem o26 : ∀ n, Xr.OpensAt Try.prog 26 k26 w26 b26 n
 | 0 => Xr.OpensAt.zero
 | n + 1 => by
  intro enc W base spare held cs x h
  obtain ⟨hl, xs, hm, hx⟩ := Xr.opens_fields Try.underlying26 h
  rw [show Try.prog.cellsOf 26 = 2 from by kernel_rfl] at hl
  obtain ⟨y0, ys0, h0, hm0, rfl⟩ := Xr.mapM_cons_some hm
  obtain ⟨y1, ys1, h1, hm1, rfl⟩ := Xr.mapM_cons_some hm0
  obtain rfl := Xr.mapM_nil_some hm1
  obtain ⟨c0, c1, rfl⟩ : ∃ c0 c1, cs = [c0, c1] := by
   match cs, hl with
   | [c0, c1], _ => exact ⟨c0, c1, rfl⟩
  have h0 : DataW.trod enc Try.prog W base spare held n 3 [c0] = some y0 := by
   have e_ := h0
   rw [show Try.prog.cellsOf 3 = 1 from by kernel_rfl] at e_
   exact e_
  obtain ⟨a0, g0, v0, q0⟩ := (Xr.opens_int Try.underlying3 n) enc W base spare held _ _ h0
  have e0 : [c0] = [Value.int .i64 a0] := g0
  injection e0 with e0 _
  subst e0
  have h1 : DataW.trod enc Try.prog W base spare held n 3 [c1] = some y1 := by
   have e_ := h1
   rw [show Try.prog.cellsOf 3 = 1 from by kernel_rfl] at e_
   exact e_
  obtain ⟨a1, g1, v1, q1⟩ := (Xr.opens_int Try.underlying3 n) enc W base spare held _ _ h1
  have e1 : [c1] = [Value.int .i64 a1] := g1
  injection e1 with e1 _
  subst e1
  refine ⟨(⟨a0, a1⟩ : S26), k26_mk W (⟨a0, a1⟩ : S26) , ?_, ?_⟩
  ·exact ⟨v0, v1⟩
  ·rw [hx]
   simp only [List.map_cons, List.map_nil, Rows.uptoBulk, Rows.uptoBulkAll, b26]
   omega
def w28 (x : S28) : Prop := w24 x.f0 ∧ w26 x.f1 ∧ (Lit.int .i64 x.f2).wf = true ∧ (Lit.int .i64 x.f3).wf = true
def b28 (x : S28) : Nat := b24 x.f0 + b26 x.f1 + 0 + 0
theorem o28 : ∀ n, Xr.OpensAt Try.prog 28 k28 w28 b28 n
 | 0 => Xr.OpensAt.zero
 | n + 1 => by
  intro enc W base spare held cs x h
  obtain ⟨hl, xs, hm, hx⟩ := Xr.opens_fields Try.underlying28 h
  rw [show Try.prog.cellsOf 28 = 7 from by kernel_rfl] at hl
  obtain ⟨y0, ys0, h0, hm0, rfl⟩ := Xr.mapM_cons_some hm
  obtain ⟨y1, ys1, h1, hm1, rfl⟩ := Xr.mapM_cons_some hm0
  obtain ⟨y2, ys2, h2, hm2, rfl⟩ := Xr.mapM_cons_some hm1
  obtain ⟨y3, ys3, h3, hm3, rfl⟩ := Xr.mapM_cons_some hm2
  obtain rfl := Xr.mapM_nil_some hm3
  obtain ⟨c0, c1, c2, c3, c4, c5, c6, rfl⟩ : ∃ c0 c1 c2 c3 c4 c5 c6, cs = [c0, c1, c2, c3, c4, c5, c6] := by
   match cs, hl with
   | [c0, c1, c2, c3, c4, c5, c6], _ => exact ⟨c0, c1, c2, c3, c4, c5, c6, rfl⟩
  have h0 : DataW.trod enc Try.prog W base spare held n 24 [c0, c1, c2] = some y0 := by
   have e_ := h0
   rw [show Try.prog.cellsOf 24 = 3 from by kernel_rfl] at e_
   exact e_
  obtain ⟨a0, g0, v0, q0⟩ := (o24 n) enc W base spare held _ _ h0
  obtain e0 := k24_open g0
  simp only [List.cons.injEq, and_true] at e0
  obtain ⟨rfl, rfl, rfl⟩ := e0
  have h1 : DataW.trod enc Try.prog W base spare held n 26 [c3, c4] = some y1 := by
   have e_ := h1
   rw [show Try.prog.cellsOf 26 = 2 from by kernel_rfl] at e_
   exact e_
  obtain ⟨a1, g1, v1, q1⟩ := (o26 n) enc W base spare held _ _ h1
  obtain e1 := k26_open g1
  simp only [List.cons.injEq, and_true] at e1
  obtain ⟨rfl, rfl⟩ := e1
  have h2 : DataW.trod enc Try.prog W base spare held n 3 [c5] = some y2 := by
   have e_ := h2
   rw [show Try.prog.cellsOf 3 = 1 from by kernel_rfl] at e_
   exact e_
  obtain ⟨a2, g2, v2, q2⟩ := (Xr.opens_int Try.underlying3 n) enc W base spare held _ _ h2
  have e2 : [c5] = [Value.int .i64 a2] := g2
  injection e2 with e2 _
  subst e2
  have h3 : DataW.trod enc Try.prog W base spare held n 3 [c6] = some y3 := by
   have e_ := h3
   rw [show Try.prog.cellsOf 3 = 1 from by kernel_rfl] at e_
   exact e_
  obtain ⟨a3, g3, v3, q3⟩ := (Xr.opens_int Try.underlying3 n) enc W base spare held _ _ h3
  have e3 : [c6] = [Value.int .i64 a3] := g3
  injection e3 with e3 _
  subst e3
  refine ⟨(⟨a0, a1, a2, a3⟩ : S28), k28_mk W (⟨a0, a1, a2, a3⟩ : S28) , ?_, ?_⟩
  ·exact ⟨v0, v1, v2, v3⟩
  ·rw [hx]
   simp only [List.map_cons, List.map_nil, Rows.uptoBulk, Rows.uptoBulkAll, b28]
   omega
end Go.Proofs.Ytgomhoolipfkmaa.Y

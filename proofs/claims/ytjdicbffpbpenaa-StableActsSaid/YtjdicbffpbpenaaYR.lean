-- Laid by a program of this session's (xrow.py).
import Derived.Test.YtjdicbffpbpenaaXr
import Derived.Test.YtjdicbffpbpenaaY0
namespace Go.Proofs.Ytjdicbffpbpenaa.Y
open Go.RowKit Go.Proofs.YtjdicbffpbpenaaW.PrintWords Go.Proofs.YtjdicbffpbpenaaW.PrintLast Go.Proofs.YtjdicbffpbpenaaW.PrintMore
set_option linter.unusedVariables false
set_option linter.unusedSimpArgs false
theorem opens_sliceN {α : Type} {P : Program} {t e : TypeId} {d : Kd α} {wf : α → Prop} {B : α → Nat} (ht : P.underlying t = some (.slice e)) (hc : P.cellsOf e = d.sz) (he : ∀ m, Xr.OpensAt P e d wf B m) :
  ∀ n, Xr.OpensAt P t (Kd.slice e d) (fun l => l.length ≤ maxLen ∧ ∀ x ∈ l, wf x) (fun l => l.length + (l.map B).sum) n
 | 0 => Xr.OpensAt.zero
 | n + 1 => Xr.opens_slice ht hc n (he n)
theorem opens_sliceF {α : Type} {P : Program} {t e : TypeId} {d : Kd α} {wf : Nat → α → Prop} {B : Nat → α → Nat} (ht : P.underlying t = some (.slice e)) (hc : P.cellsOf e = d.sz) (he : ∀ m, Xr.OpensAt P e d (wf m) (B m) m) :
  ∀ n, Xr.OpensAt P t (Kd.slice e d) (fun l => l.length ≤ maxLen ∧ ∀ x ∈ l, wf (n - 1) x) (fun l => l.length + (l.map (B (n - 1))).sum) n
 | 0 => Xr.OpensAt.zero
 | n + 1 => Xr.opens_slice ht hc n (he n)
def w24 (x : S24) : Prop := (x.f0.length ≤ maxLen ∧ ∀ y ∈ x.f0, (Lit.int .u8 y).wf = true) ∧ (x.f1.length ≤ maxLen ∧ ∀ y ∈ x.f1, (Lit.int .u8 y).wf = true)
def b24 (x : S24) : Nat := (x.f0.length + (x.f0.map (fun _ : Int => 0)).sum) + (x.f1.length + (x.f1.map (fun _ : Int => 0)).sum)
theorem o24 : ∀ n, Xr.OpensAt Try.prog 24 k24 w24 b24 n
 | 0 => Xr.OpensAt.zero
 | n + 1 => by
  intro enc W base spare held cs x h
  obtain ⟨hl, xs, hm, hx⟩ := Xr.opens_fields Try.underlying24 h
  rw [show Try.prog.cellsOf 24 = 2 from by kernel_rfl] at hl
  obtain ⟨y0, ys0, h0, hm0, rfl⟩ := Xr.mapM_cons_some hm
  obtain ⟨y1, ys1, h1, hm1, rfl⟩ := Xr.mapM_cons_some hm0
  obtain rfl := Xr.mapM_nil_some hm1
  obtain ⟨c0, c1, rfl⟩ : ∃ c0 c1, cs = [c0, c1] := by
   match cs, hl with
   | [c0, c1], _ => exact ⟨c0, c1, rfl⟩
  have h0 : DataW.trod enc Try.prog W base spare held n 22 [c0] = some y0 := by
   have e_ := h0
   rw [show Try.prog.cellsOf 22 = 1 from by kernel_rfl] at e_
   exact e_
  obtain ⟨a0, g0, v0, q0⟩ := (opens_sliceN (wf := (fun x : Int => (Lit.int .u8 x).wf = true)) (B := (fun _ : Int => 0)) (P := Try.prog) Try.underlying22 (by kernel_rfl) (fun m_ => (Xr.opens_int Try.underlying5 m_)) n) enc W base spare held _ _ h0
  obtain ⟨A0, cc0, e0, l0, C0⟩ := g0
  injection e0 with e0 _
  subst e0
  have h1 : DataW.trod enc Try.prog W base spare held n 22 [c1] = some y1 := by
   have e_ := h1
   rw [show Try.prog.cellsOf 22 = 1 from by kernel_rfl] at e_
   exact e_
  obtain ⟨a1, g1, v1, q1⟩ := (opens_sliceN (wf := (fun x : Int => (Lit.int .u8 x).wf = true)) (B := (fun _ : Int => 0)) (P := Try.prog) Try.underlying22 (by kernel_rfl) (fun m_ => (Xr.opens_int Try.underlying5 m_)) n) enc W base spare held _ _ h1
  obtain ⟨A1, cc1, e1, l1, C1⟩ := g1
  injection e1 with e1 _
  subst e1
  (try dsimp only at q0)
  (try dsimp only at q1)
  refine ⟨(⟨a0, a1⟩ : S24), k24_mk W (⟨a0, a1⟩ : S24) l0 C0 l1 C1, ?_, ?_⟩
  ·exact ⟨v0, v1⟩
  ·rw [hx]
   simp only [List.map_cons, List.map_nil, Rows.uptoBulk, Rows.uptoBulkAll, b24]
   omega
end Go.Proofs.Ytjdicbffpbpenaa.Y

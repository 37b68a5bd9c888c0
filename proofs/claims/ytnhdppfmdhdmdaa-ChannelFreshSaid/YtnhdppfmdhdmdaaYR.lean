-- Laid by a program of this session's (xrow.py).
import Derived.Test.YtnhdppfmdhdmdaaXr
import Derived.Test.YtnhdppfmdhdmdaaY0
namespace Go.Proofs.Ytnhdppfmdhdmdaa.Y
open Go.RowKit Go.Proofs.YtnhdppfmdhdmdaaW.PrintWords Go.Proofs.YtnhdppfmdhdmdaaW.PrintLast Go.Proofs.YtnhdppfmdhdmdaaW.PrintMore
set_option linter.unusedVariables false
set_option linter.unusedSimpArgs false
theorem opens_sliceN {α : Type} {P : Program} {t e : TypeId} {d : Kd α} {wf : α → Prop} {B : α → Nat} (ht : P.underlying t = some (.slice e)) (hc : P.cellsOf e = d.sz) (he : ∀ m, Xr.OpensAt P e d wf B m) :
  ∀ n, Xr.OpensAt P t (Kd.slice e d) (fun l => l.length ≤ maxLen ∧ ∀ x ∈ l, wf x) (fun l => l.length + (l.map B).sum) n
 | 0 => Xr.OpensAt.zero
 | n + 1 => Xr.opens_slice ht hc n (he n)
theorem opens_sliceF {α : Type} {P : Program} {t e : TypeId} {d : Kd α} {wf : Nat → α → Prop} {B : Nat → α → Nat} (ht : P.underlying t = some (.slice e)) (hc : P.cellsOf e = d.sz) (he : ∀ m, Xr.OpensAt P e d (wf m) (B m) m) :
  ∀ n, Xr.OpensAt P t (Kd.slice e d) (fun l => l.length ≤ maxLen ∧ ∀ x ∈ l, wf (n - 1) x) (fun l => l.length + (l.map (B (n - 1))).sum) n
 | 0 => Xr.OpensAt.zero
 | n + 1 => Xr.opens_slice ht hc n (he n)
end Go.Proofs.Ytnhdppfmdhdmdaa.Y

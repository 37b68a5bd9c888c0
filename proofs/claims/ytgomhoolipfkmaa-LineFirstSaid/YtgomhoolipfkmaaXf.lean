import Derived.Test.YtgomhoolipfkmaaXw
/-! A local array of eight numbers, as a row of the call's own; what shares it not. -/
namespace Go.Proofs.Ytgomhoolipfkmaa.Xw
open Go Go.RowKit Go.Proofs.YtgomhoolipfkmaaW.PrintWords Go.Proofs.YtgomhoolipfkmaaW.PrintLast Go.Proofs.YtgomhoolipfkmaaW.PrintMore
set_option linter.unusedVariables false
theorem arr8 {W : World} {g base T : Nat} (h : W.heap[g]? = some (.cells #[.int .i64 0, .int .i64 0, .int .i64 0, .int .i64 0, .int .i64 0, .int .i64 0, .int .i64 0, .int .i64 0] T (0, 0))) (hb : base ≤ g) :
    Kd.R (Kd.int .i64) T W base (fun _ => True) (.slice (some ⟨g, 0, none⟩) 8 8) [0, 0, 0, 0, 0, 0, 0, 0] :=
  Kd.R_of_own (enc := Value.int .i64) (h1 := fun _ => rfl) ⟨rfl, Or.inr ⟨g, 8, _, rfl, hb, h, Nat.le_refl _, by decide, rfl, rfl⟩⟩ (fun _ _ => trivial)
theorem zV {α : Type} {d : Kd α} {e base base' : Nat} {w W : World} {ok : Nat → Prop} {v : Value} {xs : List α} [hw : Nonempty (Below w.heap.size w W)] (h : Kd.V d e w base ok v xs) : Kd.V d e W base' ok v xs := hw.elim fun hw => Kd.V_map h (fun _ hf => Kd.F_below hf hw)
theorem V_off {α : Type} {d : Kd α} {e base g : Nat} {W : World} {v : Value} {xs : List α} (h : Kd.V d e W base (fun k => k ≠ g) v xs) (j : Nat) (u : Value) : Kd.V d e (W.setCell ⟨g, j, none⟩ u) base (fun k => k ≠ g) v xs :=
  Kd.V_map h (fun _ hf => Kd.F_step hf (fun k hk _ => Below.heap_setCell W ⟨g, j, none⟩ u k hk))
end Go.Proofs.Ytgomhoolipfkmaa.Xw

import Derived.Test.YtefbcebpokoinaaY0
namespace Go.Proofs.Ytefbcebpokoinaa.Pa
open Go.RowKit Go.Proofs.Ytefbcebpokoinaa.Y Go.Proofs.YtefbcebpokoinaaW.PrintWords Go.Proofs.YtefbcebpokoinaaW.PrintLast Go.Proofs.YtefbcebpokoinaaW.PrintMore
set_option linter.unusedVariables false
set_option linter.unusedSimpArgs false
theorem w64_id {n : Int} (h0 : -9223372036854775808 ≤ n) (h : n ≤ 9223372036854775807) : wrap64 n = n := by unfold wrap64; omega
/-- From some number of rounds on it answers r. -/
def Al {α : Type} (g : Nat → Option α) (r : α) : Prop := ∃ K, ∀ k, K ≤ k → g k = some r
theorem Al.of {α : Type} {g : Nat → Option α} (hm : ∀ k, LeO (g k) (g (k + 1))) {k : Nat} {r : α} (h : g k = some r) : Al g r := ⟨k, fun _ hk => at_rounds hm hk h⟩
theorem Al.ex {α : Type} {g : Nat → Option α} {r : α} (h : Al g r) : ∃ k, g k = some r := by
  obtain ⟨K, h⟩ := h
  exact ⟨K, h K (Nat.le_refl _)⟩
theorem Al.congr {α : Type} {g g' : Nat → Option α} {r : α} (h : Al g r) (e : ∀ k, g' k = g k) : Al g' r := by
  obtain ⟨K, h⟩ := h
  exact ⟨K, fun k hk => (e k).trans (h k hk)⟩
theorem Al.bind {α β : Type} {g : Nat → Option α} {f : Nat → α → Option β} {r : α} {q : β} (h : Al g r) (h2 : Al (fun k => f k r) q) : Al (fun k => (g k).bind (f k)) q := by
  obtain ⟨K, h⟩ := h
  obtain ⟨K2, h2⟩ := h2
  refine ⟨max K K2, fun k hk => ?_⟩
  show (g k).bind (f k) = some q
  rw [h k (by omega)]
  exact h2 k (by omega)
theorem Al.bindE {α β : Type} {G : Nat → Option β} {g : Nat → Option α} {f : Nat → α → Option β} {r : α} {q : β} (e : ∀ k, G k = (g k).bind (f k)) (h : Al g r) (h2 : Al (fun k => f k r) q) : Al G q := Al.congr (Al.bind h h2) e
theorem Al.val {α : Type} {G : Nat → Option α} {r : α} (e : ∀ k, G k = some r) : Al G r := ⟨0, fun k _ => e k⟩
/-- A loop's round. -/
theorem Al.succ {α : Type} {G G' : Nat → Option α} {r : α} (h : Al G' r) (e : ∀ k, G (k + 1) = G' k) : Al G r := by
  obtain ⟨K, h⟩ := h
  refine ⟨K + 1, fun k hk => ?_⟩
  obtain ⟨m, rfl⟩ : ∃ m, k = m + 1 := ⟨k - 1, by omega⟩
  rw [e]
  exact h m (by omega)
theorem Al.succV {α : Type} {G : Nat → Option α} {r : α} (e : ∀ k, G (k + 1) = some r) : Al G r := Al.succ (G' := fun _ => some r) (Al.val fun _ => rfl) e
theorem Al.succB {α β : Type} {G : Nat → Option β} {g : Nat → Option α} {f : Nat → α → Option β} {r : α} {q : β} (e : ∀ k, G (k + 1) = (g k).bind (f k)) (h : Al g r) (h2 : Al (fun k => f k r) q) : Al G q := Al.succ (Al.bind h h2) e
theorem Al.eq {α : Type} {g : Nat → Option α} {r r' : α} (h : Al g r) (e : r = r') : Al g r' := e ▸ h
end Go.Proofs.Ytefbcebpokoinaa.Pa

import Derived.Test.YtjdicbffpbpenaaPs
import Derived.Test.YtjdicbffpbpenaaY12
namespace Go.Proofs.Ytjdicbffpbpenaa.Pure
open Go.RowKit Go.Proofs.Ytjdicbffpbpenaa.Y Go.Proofs.YtjdicbffpbpenaaW.PrintWords Go.Proofs.YtjdicbffpbpenaaW.PrintLast Go.Proofs.Ytjdicbffpbpenaa.Pl
set_option linter.unusedVariables false
theorem long_end (m c : Int) (x : List Int) (hx : By x) (h0 : 0 ≤ m) (h3 : m < 4) (hl : (x.length : Int) = 510 + m) (i : Int) (hi : (x.length : Int) ≤ i) : Al (fun k => clusterlockslaw26_StableLong.l0 k m c x (x.length : Int) i) true := by
  have hw := write_al (a := []) (b := []) (rec := x) nil_by nil_by hx (by simp) (by simp)
  refine Al.succB (g := fun k => stable_Write.f k [] [] x) (fun k => by rw [clusterlockslaw26_StableLong.l0, if_neg (by omega), new_ok]; rfl) hw ?_
  by_cases h : m = 3
  · refine Al.bindE (g := fun k => clusterlockslaw26_awake.f k) (fun k => by rw [if_pos h]) awake_al (Al.val fun k => ?_)
    unfold wri
    rw [if_pos rfl, if_pos (by omega)]
    rfl
  · have hp : pres [] [] = ([], 0, 0, false) := by unfold pres; rw [wh_nil]; rfl
    have hr : wri [] [] x = (cpy 1 x, [], 0) := by
      unfold wri
      rw [if_neg (by omega), hp, if_neg (by decide), if_neg (by decide)]
      rfl
    have hq := cpy_len (v := 1) (rec := x) (by omega)
    rw [hr]
    refine Al.bindE (g := fun k => stable_Read.f k (cpy 1 x) []) (fun k => by rw [if_neg h]) (read_al (cpy_by (by omega) hx) nil_by (by omega) (by simp)) ?_
    refine Al.bindE (g := fun k => clusterlockslaw26_awake.f k) (fun k => rfl) awake_al (Al.val fun k => ?_)
    have hrd : rdr (cpy 1 x) [] = (x, 1, 0) := by
      unfold rdr pres
      rw [wh_cpy (by omega) (by omega) (by omega) hx, wh_nil]
      rfl
    rw [hrd]
    simp only [if_true]
    rw [str_eq rfl]
theorem long_loop (m c : Int) (n : Nat) (hc : 0 ≤ c ∧ c < 256) (h0 : 0 ≤ m) (h3 : m < 4) (hn : (n : Int) = 510 + m) (d : Nat) : ∀ (i : Nat) (x : List Int), i + d = n → x.length = n → (∀ j : Nat, j < i → x[j]? = some c) → (∀ y ∈ x, 0 ≤ y ∧ y < 256) → Al (fun k => clusterlockslaw26_StableLong.l0 k m c x (n : Int) (i : Int)) true := by
  induction d with
  | zero =>
    intro i x hi hx _ hb
    have := long_end m c x hb h0 h3 (by omega) (i : Int) (by omega)
    rw [hx] at this
    exact this
  | succ d ih =>
    intro i x hi hx hj hb
    refine Al.succ (ih (i + 1) (x.set i c) (by omega) (by simpa using hx) ?_ ?_) (fun k => ?_)
    · intro j hj2
      by_cases e : j = i
      · subst e; rw [List.getElem?_set_self (by omega)]
      · rw [List.getElem?_set_ne (by omega)]; exact hj j (by omega)
    · intro y hy
      rcases List.mem_or_eq_of_mem_set hy with h | h
      · exact hb y h
      · subst h; exact hc
    · rw [clusterlockslaw26_StableLong.l0, if_pos (by omega), if_pos (by omega), if_pos (by omega), w64_id (by omega) (by omega), Int.toNat_natCast]
      rfl
theorem StableLong : clusterlockslaw26_StableLong.Pure := by
  intro a0 a1 h0 h1
  obtain ⟨m, hm, m0, m1⟩ := mod_ok a0 4 (by omega) (wf_i64 h0) (by omega)
  have hc := wf_u8 h1
  refine Al.ex (r := true) ?_
  have hl := long_loop m a1 (510 + m).toNat hc m0 m1 (by omega) (510 + m).toNat 0 (List.replicate (510 + m).toNat 0) (by omega) (by simp) (fun j hj => absurd hj (Nat.not_lt_zero _)) (fun y hy => by rw [List.mem_replicate] at hy; omega)
  refine Al.congr hl (fun k => ?_)
  unfold clusterlockslaw26_StableLong.f
  rw [hm, Option.bind_some, w64_id (by omega) (by omega), if_pos (by omega), if_pos (by omega)]
  simp only [Option.bind_some, List.length_replicate]
  rfl
end Go.Proofs.Ytjdicbffpbpenaa.Pure

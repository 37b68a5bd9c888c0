import Derived.Test.YtjdicbffpbpenaaPs
import Derived.Test.YtjdicbffpbpenaaPq
import Derived.Test.YtjdicbffpbpenaaY6
import Derived.Test.YtjdicbffpbpenaaY7
import Derived.Test.YtjdicbffpbpenaaY8
import Derived.Test.YtjdicbffpbpenaaY9
namespace Go.Proofs.Ytjdicbffpbpenaa.Pl
open Go.RowKit Go.Proofs.Ytjdicbffpbpenaa.Y Go.Proofs.YtjdicbffpbpenaaW.PrintWords Go.Proofs.YtjdicbffpbpenaaW.PrintLast Go.Proofs.YtjdicbffpbpenaaW.PrintMore
set_option linter.unusedVariables false
set_option linter.unusedSimpArgs false

/-! The document's answers. -/
theorem rwhole_true (x : List Int) : Al (fun k => clusterlocksref26_whole.j0 k x true) ([], 0) := Al.succV fun k => by rw [clusterlocksref26_whole.j0]; rw [if_pos rfl]
theorem rwhole_al {l : List Int} (hl : By l) (hn : l.length ≤ 140737488355328) : Al (fun k => clusterlocksref26_whole.f k l) ((wh l).1, (wh l).2.1) := by
  refine Al.bindE (fun k => rfl) (runframe_al hl hn) ?_
  unfold wh
  by_cases h1 : (unf l).2.2 = 0
  · by_cases h2 : (unf l).2.1 = (l.length : Int)
    · rw [if_pos ⟨h1, h2⟩]
      have hub := (unf_by hl).1
      have hul := (unf_by hl).2
      have e0 : ((unf l).2.1 != (l.length : Int)) = false := by simp [h2]
      by_cases h3 : (uint (unf l).1).2.2 = 0
      · obtain ⟨v, v0, v1, e, _, v5⟩ := uint_ok hub h3
        have hq := enc_len 10 v
        refine Al.succB (g := fun k => clusterlocksref01_Uint.f k (unf l).1) (fun k => by rw [if_pos h1, e0, clusterlocksref26_whole.j0, if_neg (by decide)]) (ref_uint hub) (Al.val fun k => ?_)
        rw [e]
        simp only [if_true]
        by_cases h4 : 1 ≤ v
        · rw [if_neg (by omega)]
          by_cases h5 : v ≤ 1073741824
          · rw [if_neg (by omega), w64_id (n := ((unf l).1.length : Int) - ((enc 10 v).length : Int)) (by omega) (by omega)]
            by_cases h6 : ((unf l).1.length : Int) - ((enc 10 v).length : Int) ≤ 512
            · rw [if_neg (by omega), if_pos (by omega), if_pos (by omega), Option.bind_some, if_pos (by simp only [List.length_drop, List.length_nil]; omega), if_pos ⟨trivial, h4, h5, h6⟩, w64_id (by omega) (by omega)]
              rfl
            · rw [if_pos (by omega), if_neg (fun h => h6 h.2.2.2)]
          · rw [if_pos (by omega), if_neg (fun h => h5 h.2.2.1)]
        · rw [if_pos (by omega), if_neg (fun h => h4 h.2.1)]
      · refine Al.succB (g := fun k => clusterlocksref01_Uint.f k (unf l).1) (fun k => by rw [if_pos h1, e0, clusterlocksref26_whole.j0, if_neg (by decide)]) (ref_uint hub) (Al.val fun k => ?_)
        rw [if_neg h3, if_neg (fun h => h3 h.1)]
    · rw [if_neg (fun h => h2 h.2)]
      refine Al.congr (rwhole_true (unf l).1) (fun k => ?_)
      have e0 : ((unf l).2.1 != (l.length : Int)) = true := by simp [h2]
      show (if (unf l).2.2 = 0 then _ else _) = _
      rw [if_pos h1, e0]
  · rw [if_neg (fun h => h1 h.1)]
    refine Al.congr (rwhole_true (unf l).1) (fun k => ?_)
    show (if (unf l).2.2 = 0 then _ else _) = _
    rw [if_neg h1]
theorem wh_ok (l : List Int) : ((wh l).2.2 = true ∧ 1 ≤ (wh l).2.1) ∨ ((wh l).2.2 = false ∧ (wh l).2.1 = 0 ∧ (wh l).1 = []) := by
  unfold wh
  split
  · split
    · rename_i h; exact Or.inl ⟨rfl, h.2.1⟩
    · exact Or.inr ⟨rfl, rfl, rfl⟩
  · exact Or.inr ⟨rfl, rfl, rfl⟩
/-- Which copy is present, by the versions alone. -/
theorem pres_cases (a b : List Int) :
    ((wh a).2.1 = 0 ∧ (wh b).2.1 = 0 ∧ pres a b = ([], 0, 0, false)) ∨
    ((wh a).2.1 < (wh b).2.1 ∧ pres a b = ((wh b).1, (wh b).2.1, 1, true)) ∨
    (0 < (wh a).2.1 ∧ (wh b).2.1 ≤ (wh a).2.1 ∧ pres a b = ((wh a).1, (wh a).2.1, 0, true)) := by
  unfold pres
  rcases wh_ok a with ⟨a1, a2⟩ | ⟨a1, a2, a3⟩ <;> rcases wh_ok b with ⟨b1, b2⟩ | ⟨b1, b2, b3⟩
  · rw [a1, b1]
    by_cases h : (wh b).2.1 > (wh a).2.1
    · exact Or.inr (Or.inl ⟨h, by simp [h]⟩)
    · exact Or.inr (Or.inr ⟨by omega, by omega, by simp [h]⟩)
  · rw [a1, b1]
    exact Or.inr (Or.inr ⟨by omega, by omega, by simp⟩)
  · rw [a1, b1]
    exact Or.inr (Or.inl ⟨by omega, by simp⟩)
  · rw [a1, b1]
    exact Or.inl ⟨a2, b2, by simp [a2, a3]⟩
theorem rread_j (a b : List Int) (v w : Int) (q : Bool) : Al (fun k => clusterlocksref26_Read.j0 k a v b w q) (if q = true then ([], 0, 10) else if v ≥ w then (a, v, 0) else (b, w, 0)) :=
  Al.succV fun k => by
    rw [clusterlocksref26_Read.j0]
    split
    · rfl
    · split <;> rfl
theorem rread_al {a b : List Int} (ha : By a) (hb : By b) (na : a.length ≤ 140737488355328) (nb : b.length ≤ 140737488355328) : Al (fun k => clusterlocksref26_Read.f k a b) (rdr a b) := by
  refine Al.bindE (fun k => rfl) (rwhole_al ha na) (Al.bindE (fun k => rfl) (rwhole_al hb nb) ?_)
  unfold rdr
  rcases pres_cases a b with ⟨h1, h2, e⟩ | ⟨h1, e⟩ | ⟨h1, h2, e⟩
  · rw [e]
    refine Al.eq (Al.congr (rread_j (wh a).1 (wh b).1 (wh a).2.1 (wh b).2.1 true) (fun k => ?_)) (by simp)
    dsimp only
    rw [if_pos h1, show ((wh b).2.1 == 0) = true from beq_iff_eq.mpr h2]
  · have b0 := wh_v a
    rw [e]
    refine Al.eq (Al.congr (rread_j (wh a).1 (wh b).1 (wh a).2.1 (wh b).2.1 false) (fun k => ?_)) (by rw [if_neg (by decide), if_neg (by omega)]; rfl)
    dsimp only
    rw [show ((wh b).2.1 == 0) = false from beq_eq_false_iff_ne.mpr (by omega)]
    split <;> rfl
  · rw [e]
    refine Al.eq (Al.congr (rread_j (wh a).1 (wh b).1 (wh a).2.1 (wh b).2.1 false) (fun k => ?_)) (by rw [if_neg (by decide), if_pos (by omega)]; rfl)
    dsimp only
    rw [if_neg (by omega)]
theorem mx_pres (a b : List Int) : mx (wh a).2.1 (wh b).2.1 = (pres a b).2.1 := by
  have := wh_v a
  unfold mx
  rcases pres_cases a b with ⟨h1, h2, e⟩ | ⟨h1, e⟩ | ⟨h1, h2, e⟩ <;> rw [e] <;> dsimp only <;> split <;> omega
def nxt (a b rec : List Int) : List Int × Bool × Int :=
  if rec.length > 512 then ([], false, 3) else if (pres a b).2.1 ≥ 1073741824 then ([], false, 16) else (cpy ((pres a b).2.1 + 1) rec, !((pres a b).2.2.2 && decide ((pres a b).2.2.1 = 0)), 0)
theorem next_al {a b rec : List Int} (ha : By a) (hb : By b) (hr : By rec) (na : a.length ≤ 140737488355328) (nb : b.length ≤ 140737488355328) : Al (fun k => clusterlocksref26_next.f k a b rec) (nxt a b rec) := by
  unfold nxt
  by_cases h1 : rec.length > 512
  · rw [if_pos h1]
    exact Al.val fun k => by unfold clusterlocksref26_next.f; rw [if_pos (by omega)]
  rw [if_neg h1]
  have hv := pres_v a b
  refine Al.bindE (fun k => by unfold clusterlocksref26_next.f; rw [if_neg (by omega)]) (rwhole_al ha na) (Al.bindE (fun k => rfl) (rwhole_al hb nb) ?_)
  dsimp only
  rw [mx_pres]
  by_cases h2 : (pres a b).2.1 ≥ 1073741824
  · rw [if_pos h2]
    exact Al.val fun k => by rw [if_pos (by omega)]
  rw [if_neg h2]
  have hq := enc_len 10 ((pres a b).2.1 + 1)
  refine Al.bindE (fun k => by rw [if_neg (by omega), w64_id (by omega) (by omega), u64w_id (by omega) (by omega)]) (rputuint [] (by simp) ((pres a b).2.1 + 1) (by omega) (by omega)) ?_
  simp only [List.nil_append]
  refine Al.bindE (fun k => by rw [if_pos (by omega)]) (rframe_al (l := enc 10 ((pres a b).2.1 + 1) ++ rec) (by rw [List.length_append]; omega)) (Al.val fun k => ?_)
  have b0 := wh_v a
  rcases pres_cases a b with ⟨h3, h4, e⟩ | ⟨h3, e⟩ | ⟨h3, h4, e⟩ <;> rw [e]
  · rw [if_pos h3, if_pos h4]; rfl
  · rw [if_neg (show ¬ (wh b).2.1 = 0 by omega), decide_eq_true h3]
    split <;> rfl
  · rw [if_neg (by omega), decide_eq_false (by omega)]; rfl
theorem rtorn_al {a b rec : List Int} (ha : By a) (hb : By b) (hr : By rec) (na : a.length < 140737488355328) (nb : b.length < 140737488355328) (n : Int) : Al (fun k => clusterlocksref26_Torn.f k a b rec n) (tor a b rec n) := by
  refine Al.bindE (fun k => rfl) (next_al ha hb hr (by omega) (by omega)) (Al.val fun k => ?_)
  unfold tor nxt
  by_cases h1 : rec.length > 512
  · rw [if_pos h1, if_pos h1]; rfl
  rw [if_neg h1, if_neg h1]
  by_cases h2 : (pres a b).2.1 ≥ 1073741824
  · rw [if_pos h2, if_pos h2]; rfl
  rw [if_neg h2, if_neg h2]
  dsimp only
  have hc : (mx (mn n ((cpy ((pres a b).2.1 + 1) rec).length : Int)) 0).toNat = cutn n (cpy ((pres a b).2.1 + 1) rec) := by
    unfold cutn mn mx
    (repeat' split) <;> omega
  rw [if_pos rfl, if_pos (by unfold mx; split <;> omega), if_pos (by unfold mn mx; (repeat' split) <;> omega), Option.bind_some, if_pos (by simpa using na), if_pos (by simpa using nb), hc]
  by_cases h3 : (pres a b).2.2.2 = true ∧ (pres a b).2.2.1 = 0
  · rw [if_pos h3, h3.1, decide_eq_true h3.2]
    rfl
  · rw [if_neg h3]
    have : (!((pres a b).2.2.2 && decide ((pres a b).2.2.1 = 0))) = true := by
      cases h : (pres a b).2.2.2
      · rfl
      · simpa [h] using h3
    rw [this]
    rfl
theorem rwrite_al {a b rec : List Int} (ha : By a) (hb : By b) (hr : By rec) (na : a.length < 140737488355328) (nb : b.length < 140737488355328) : Al (fun k => clusterlocksref26_Write.f k a b rec) (wri a b rec) := by
  refine Al.bindE (fun k => rfl) (rtorn_al ha hb hr na nb 8192) (Al.val fun k => ?_)
  rw [tor_wri]
theorem same_ok {a b c d : List Int} (h : a = c) (k : b = d) : clusterlocksref26_Same.f a b c d = some true := by
  subst h; subst k
  unfold clusterlocksref26_Same.f
  rw [if_pos rfl, beq_self_eq_true]
end Go.Proofs.Ytjdicbffpbpenaa.Pl

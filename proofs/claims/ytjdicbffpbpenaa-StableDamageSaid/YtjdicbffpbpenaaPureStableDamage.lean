import Derived.Test.YtjdicbffpbpenaaPs
import Derived.Test.YtjdicbffpbpenaaY13
namespace Go.Proofs.Ytjdicbffpbpenaa.Pure
open Go.RowKit Go.Proofs.Ytjdicbffpbpenaa.Y Go.Proofs.YtjdicbffpbpenaaW.PrintWords Go.Proofs.YtjdicbffpbpenaaW.PrintLast Go.Proofs.Ytjdicbffpbpenaa.Pl
set_option linter.unusedVariables false
theorem dam_awake (a b : List Int) (c : Int) : Al (fun k => clusterlockslaw26_StableDamage.j0 k a b c true) true :=
  Al.succB (g := fun k => clusterlockslaw26_awake.f k) (fun k => by rw [clusterlockslaw26_StableDamage.j0, if_pos rfl]) awake_al (Al.val fun k => rfl)
theorem StableDamage : clusterlockslaw26_StableDamage.Pure := by
  intro l0 l1 a2 hm0 hs0 hb0 hm1 hs1 hb1 hi
  refine Al.ex (r := true) ?_
  by_cases ha : (l0.length : Int) > 512
  · exact Al.congr (dam_awake l0 l1 a2) (fun k => by unfold clusterlockslaw26_StableDamage.f; rw [if_pos ha])
  by_cases hb : (l1.length : Int) > 512
  · exact Al.congr (dam_awake l0 l1 a2) (fun k => by unfold clusterlockslaw26_StableDamage.f; rw [if_neg ha, decide_eq_true hb])
  have ba : By l0 := by_of_wf hb0
  have bb : By l1 := by_of_wf hb1
  have hp : pres [] [] = ([], 0, 0, false) := by unfold pres; rw [wh_nil]; rfl
  have hr1 : wri [] [] l0 = (cpy 1 l0, [], 0) := by
    unfold wri
    rw [if_neg (by omega), hp, if_neg (by decide), if_neg (by decide)]
    rfl
  have hq := cpy_len (v := 1) (rec := l0) (by omega)
  have hq2 := cpy_len (v := 2) (rec := l1) (by omega)
  have hp2 : pres (cpy 1 l0) [] = (l0, 1, 0, true) := by unfold pres; rw [wh_nil, wh_cpy (by omega) (by omega) (by omega) ba]; rfl
  have hr2 : wri (cpy 1 l0) [] l1 = (cpy 1 l0, cpy 2 l1, 0) := by
    unfold wri
    rw [if_neg (by omega), hp2, if_neg (show ¬ (1 : Int) ≥ 1073741824 by decide), if_pos ⟨rfl, rfl⟩]
    rfl
  have hpos : 0 < (cpy 2 l1).length := by unfold cpy; rw [fr_len]; omega
  obtain ⟨j, hj, j0, j1⟩ := mod_ok a2 ((cpy 2 l1).length : Int) (by omega) (wf_i64 hi) (by omega)
  refine Al.succB (G := fun k => clusterlockslaw26_StableDamage.f k l0 l1 a2) (g := fun k => stable_Write.f k [] [] l0) (f := fun k bt => (stable_Write.f k bt.1 bt.2.1 l1).bind fun bt555 => (if bt.2.2 = 0 then (if bt555.2.2 = 0 then (clusterlockslaw26_StableDamage.j1 k l0 a2 ((bt555.2.1.length : Int) == 0) bt555.1 bt555.2.1) else (clusterlockslaw26_StableDamage.j1 k l0 a2 true bt555.1 bt555.2.1)) else (clusterlockslaw26_StableDamage.j1 k l0 a2 true bt555.1 bt555.2.1)))
    (fun k => by unfold clusterlockslaw26_StableDamage.f; rw [if_neg ha, decide_eq_false hb, clusterlockslaw26_StableDamage.j0, if_neg (by decide), new_ok]; rfl) (write_al nil_by nil_by ba (by simp) (by simp)) ?_
  rw [hr1]
  refine Al.bindE (fun k => rfl) (write_al (a := cpy 1 l0) (b := []) (cpy_by (by omega) ba) nil_by bb (by omega) (by simp)) ?_
  rw [hr2]
  dsimp only
  have e0 : (((cpy 2 l1).length : Int) == 0) = false := beq_eq_false_iff_ne.mpr (by omega)
  refine Al.succB (g := fun k => stable_Read.f k (cpy 1 l0) ((cpy 2 l1).take j.toNat)) (fun k => by
    rw [if_pos rfl, if_pos rfl, e0, clusterlockslaw26_StableDamage.j1, if_neg (by decide), hj, Option.bind_some, if_pos j0, if_pos (by omega)])
    (read_al (a := cpy 1 l0) (cpy_by (by omega) ba) (fun x hx => cpy_by (v := 2) (by omega) bb x (List.mem_of_mem_take hx)) (by omega) (by rw [List.length_take]; omega)) ?_
  refine Al.bindE (g := fun k => clusterlockslaw26_awake.f k) (fun k => rfl) awake_al (Al.val fun k => ?_)
  have hrd : rdr (cpy 1 l0) ((cpy 2 l1).take j.toNat) = (l0, 1, 0) := by
    unfold rdr pres
    rw [wh_cpy (by omega) (by omega) (by omega) ba, wh_short (by omega) j.toNat (by omega)]
    rfl
  rw [hrd]
  simp only [if_true]
  rw [str_eq rfl]
end Go.Proofs.Ytjdicbffpbpenaa.Pure

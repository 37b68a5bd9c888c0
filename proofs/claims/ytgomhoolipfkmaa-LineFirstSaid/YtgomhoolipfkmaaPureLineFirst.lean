/- Claims of one priority stand in the order in which they came. -/
import Derived.Test.YtgomhoolipfkmaaPn
import Derived.Test.YtgomhoolipfkmaaYQLineFirst
namespace Go.Proofs.Ytgomhoolipfkmaa.Pure
open Go.RowKit Go.Proofs.Ytgomhoolipfkmaa.Y Go.Proofs.Ytgomhoolipfkmaa.Pa Go.Proofs.Ytgomhoolipfkmaa.Pl Go.Proofs.YtgomhoolipfkmaaW.PrintWords Go.Proofs.YtgomhoolipfkmaaW.PrintLast Go.Proofs.YtgomhoolipfkmaaW.PrintMore
structure Iv (came : List Int) (i : Int) (l : List S28) : Prop where
  good : Gl l
  len : came.length = 8
  le : ∀ j, came.getD j 0 ≤ i
  ord : l.Pairwise (fun x y => x.f2 = y.f2 → came.getD (nm x) 0 ≤ came.getD (nm y) 0)
theorem Iv.next {came : List Int} {i : Int} {l : List S28} (h : Iv came i l) : Iv came (i + 1) l := ⟨h.good, h.len, fun j => by have := h.le j; omega, h.ord⟩
theorem number_f (x : S28) (m : Nat) (hm : m < 8) (h : x.f0 = pr m) : clusterlockslaw11_number.f x.f0.f0 x.f0.f1 x.f0.f2 = some (m : Int) := by
  unfold clusterlockslaw11_number.f
  rw [h]
  simp only [pr]
  rw [w64_id (n := 1 + ((m / 4 : Nat) : Int) - 1) (by omega) (by omega), w64_id (n := (1 + ((m / 4 : Nat) : Int) - 1) * 4) (by omega) (by omega), w64_id (by omega) (by omega), mod_f _ 8 (by omega) (by omega)]
  simp only [Option.bind_some]
  congr 1
  omega
theorem Iv.less {came : List Int} {i : Int} {l l' : List S28} (h : Iv came i l) (hg : Gl l') (hs : List.Sublist l' l) : Iv came i l' := ⟨hg, h.len, h.le, h.ord.sublist hs⟩
theorem getD_set (l : List Int) (m j : Nat) (v : Int) (hm : m < l.length) : (l.set m v).getD j 0 = if j = m then v else l.getD j 0 := by
  simp only [List.getD_eq_getElem?_getD, List.getElem?_set]
  by_cases e : m = j
  · subst e; simp [hm]
  · rw [if_neg e, if_neg (fun h => e h.symm)]
theorem Iv.put {came : List Int} {i : Int} {l : List S28} (h : Iv came i l) {w : S28} {m : Nat} (hm : m < 8) (e : w.f0 = pr m) (hg : Gl (put l w)) (hn : ∀ x ∈ l, x.f0 ≠ w.f0) : Iv (came.set m i) i (put l w) := by
  have hlen := h.len
  have hw : nm w = m := nm_pr w m e
  have hx : ∀ x ∈ l, nm x ≠ m := by
    intro x hx
    obtain ⟨m', _, e'⟩ := h.good.pr x hx
    rw [nm_pr x m' e']
    intro c
    subst c
    exact hn x hx (e'.trans e.symm)
  refine ⟨hg, by simp [hlen], fun j => ?_, put_pairwise h.ord ?_ ?_ ?_ ?_ ?_⟩
  · rw [getD_set _ _ _ _ (by omega)]
    have := h.le j
    split <;> omega
  · intro x hx1 y hy1 hr hp
    rw [getD_set _ _ _ _ (by omega), getD_set _ _ _ _ (by omega), if_neg (hx x hx1), if_neg (hx y hy1)]
    exact hr hp
  · intro x hx1 y hy1 hr hp
    rw [getD_set _ _ _ _ (by omega), getD_set _ _ _ _ (by omega), if_neg (hx x hx1), if_neg (show nm (bump y) ≠ m from hx y hy1)]
    exact hr hp
  · intro x hx1 y hy1 hr hp
    rw [getD_set _ _ _ _ (by omega), getD_set _ _ _ _ (by omega), if_neg (show nm (bump x) ≠ m from hx x hx1), if_neg (show nm (bump y) ≠ m from hx y hy1)]
    exact hr hp
  · intro x hx1 hp
    rw [getD_set _ _ _ _ (by omega), getD_set _ _ _ _ (by omega), if_neg (hx x hx1), if_pos hw]
    exact h.le _
  · intro y hy1 hlt hp
    have : y.f2 = w.f2 := hp.symm
    omega
theorem first_l2 (sc : List Int) (l : List S28) (came : List Int) (i : Int) (h : Iv came i l) (a : Int) (ha : 0 ≤ a) (ha2 : a < l.length) (hc : Al (fun k => clusterlockslaw11_LineFirst.l1 k sc l came i (a + 1)) true) (d : Nat) : ∀ b : Int, a < b → b + d = l.length → Al (fun k => clusterlockslaw11_LineFirst.l2 k sc l came i a b) true := by
  have hl := h.good.len
  induction d with
  | zero =>
    intro b h0 h1
    refine Al.succ hc fun k => ?_
    simp only [clusterlockslaw11_LineFirst.l2]
    rw [if_neg (by omega), w64_id (n := a + 1) (by omega) (by omega)]
  | succ d ih =>
    intro b h0 h1
    refine Al.succ (ih (b + 1) (by omega) (by omega)) fun k => ?_
    simp only [clusterlockslaw11_LineFirst.l2]
    rw [if_pos (by omega), if_pos (by omega), w64_id (n := b + 1) (by omega) (by omega), rd28, rd28]
    by_cases e : (l.getD a.toNat z28).f2 = (l.getD b.toNat z28).f2
    · obtain ⟨ma, hma, ea⟩ := h.good.pr _ (getD_mem (l := l) (i := a.toNat) (by omega))
      obtain ⟨mb, hmb, eb⟩ := h.good.pr _ (getD_mem (l := l) (i := b.toNat) (by omega))
      have ho := List.pairwise_iff_getElem.1 h.ord a.toNat b.toNat (by omega) (by omega) (by omega)
      have hr : ∀ j (hj : j < l.length), l[j] = l.getD j z28 := fun j hj => by rw [List.getD_eq_getElem?_getD, List.getElem?_eq_getElem hj]; rfl
      rw [hr, hr] at ho
      have ho := ho e
      rw [nm_pr _ ma ea, nm_pr _ mb eb] at ho
      rw [if_pos e, number_f _ ma hma ea, number_f _ mb hmb eb]
      simp only [Option.bind_some]
      rw [if_pos]
      refine ⟨⟨by omega, by omega⟩, ⟨by omega, by omega⟩, ?_⟩
      unfold rd
      simp only [Int.toNat_natCast]
      omega
    · rw [if_neg e]
theorem first_l1 (sc : List Int) (l : List S28) (came : List Int) (i : Int) (hi : 0 ≤ i) (hi2 : i < 1000) (h : Iv came i l) (hc : Al (fun k => clusterlockslaw11_LineFirst.l0 k sc l came (i + 1)) true) (d : Nat) : ∀ a : Int, 0 ≤ a → a + d = l.length → Al (fun k => clusterlockslaw11_LineFirst.l1 k sc l came i a) true := by
  have hl := h.good.len
  induction d with
  | zero =>
    intro a h0 h1
    refine Al.succ hc fun k => ?_
    simp only [clusterlockslaw11_LineFirst.l1]
    rw [if_neg (by omega), w64_id (n := i + 1) (by omega) (by omega)]
  | succ d ih =>
    intro a h0 h1
    refine Al.succ (first_l2 sc l came i h a h0 (by omega) (ih (a + 1) (by omega) (by omega)) d (a + 1) (by omega) (by omega)) fun k => ?_
    simp only [clusterlockslaw11_LineFirst.l1]
    rw [if_pos (by omega), if_pos h0, w64_id (n := a + 1) (by omega) (by omega)]
theorem first_l0 (sc : List Int) (hs : sc.length ≤ 300) (d : Nat) : ∀ (i : Int) (l : List S28) (came : List Int), 0 ≤ i → i + d = sc.length → Iv came i l → Al (fun k => clusterlockslaw11_LineFirst.l0 k sc l came i) true := by
  induction d with
  | zero =>
    intro i l came h0 h1 h
    refine Al.succB (f := fun k t => some t) (fun k => ?_) awake_al (Al.val fun k => rfl)
    simp only [clusterlockslaw11_LineFirst.l0]
    rw [if_neg (by omega)]
  | succ d ih =>
    intro i l came h0 h1 h
    have n0 := Int.emod_nonneg (rd sc i) (by omega : (400 : Int) ≠ 0)
    have n1 := Int.emod_lt_of_pos (rd sc i) (by omega : (0 : Int) < 400)
    have m0 := Int.emod_nonneg (rd sc i % 400 / 5) (by omega : (8 : Int) ≠ 0)
    have m1 := Int.emod_lt_of_pos (rd sc i % 400 / 5) (by omega : (0 : Int) < 8)
    refine Al.succB (f := fun k bt => if bt.2.2 = true then (if bt.2.1 = true then ((clusterlocksmill_Mod.f (wrap64 (Int.tdiv (rd sc i % 400) 5)) 8).bind fun m => (if 0 ≤ m ∧ m < 8 then (clusterlockslaw11_LineFirst.l1 k sc bt.1 (came.set m.toNat i) i 0) else (none))) else (clusterlockslaw11_LineFirst.l1 k sc bt.1 came i 0)) else none) (fun k => ?_) (step_al h.good (rd sc i % 400) n0 (by omega)) ?_
    · simp only [clusterlockslaw11_LineFirst.l0]
      rw [if_pos (by omega), if_pos h0, mod_f _ 400 (by omega) (by omega)]
      rfl
    rcases stp_cases h.good (rd sc i % 400) with ⟨hp, hg, hsub⟩ | ⟨hp, he, hg, hn, hlen⟩
    · have hi := h.less hg hsub
      refine (first_l1 sc _ came i h0 (by omega) hi (ih (i + 1) _ came (by omega) (by omega) hi.next) (stp l (rd sc i % 400)).1.length 0 (by omega) (by omega)).congr fun k => ?_
      rw [if_pos (stp_ok _ _), if_neg (by rw [hp]; decide)]
    · have hi := h.put (m := (rd sc i % 400 / 5 % 8).toNat) (by omega) rfl hg hn
      refine (first_l1 sc _ _ i h0 (by omega) hi (ih (i + 1) _ _ (by omega) (by omega) hi.next) (put l (mk (rd sc i % 400))).length 0 (by omega) (by omega)).congr fun k => ?_
      rw [if_pos (stp_ok _ _), if_pos hp, Int.tdiv_eq_ediv_of_nonneg n0, w64_id (by omega) (by omega), mod_f _ 8 (by omega) (by omega), he]
      simp only [Option.bind_some]
      rw [if_pos ⟨m0, m1⟩]
theorem zeros_le : ∀ j, ([0, 0, 0, 0, 0, 0, 0, 0] : List Int).getD j 0 ≤ 0
  | 0 | 1 | 2 | 3 | 4 | 5 | 6 | 7 => by decide
  | j + 8 => by simp
theorem LineFirst : clusterlockslaw11_LineFirst.PureX := by
  intro sc hwf hb
  refine Al.ex (r := true) ?_
  unfold clusterlockslaw11_LineFirst.f clusterlocksmill_Light.f
  simp only [Option.bind_some]
  by_cases h : (sc.length : Int) ≤ 300
  · refine (first_l0 sc (by omega) sc.length 0 [] [0, 0, 0, 0, 0, 0, 0, 0] (by omega) (by omega) ⟨Gl.nil, rfl, zeros_le, List.Pairwise.nil⟩).congr fun k => ?_
    rw [if_pos (decide_eq_true h)]
  · refine Al.bindE (f := fun k t => some t) (fun k => ?_) awake_al (Al.val fun k => rfl)
    rw [if_neg (by simpa using h)]
end Go.Proofs.Ytgomhoolipfkmaa.Pure

-- Laid by a program of this session's (xprint.py, which runs the kit's print.py with patches of its own). Lean checks it.
import Derived.Test.YtefbcebpokoinaaY0
import Derived.Test.YtefbcebpokoinaaY8
import Derived.Test.YtefbcebpokoinaaY12
namespace Go.Proofs.Ytefbcebpokoinaa.Y
open Go.RowKit Go.Proofs.YtefbcebpokoinaaW.PrintWords Go.Proofs.YtefbcebpokoinaaW.PrintLast Go.Proofs.YtefbcebpokoinaaW.PrintMore
attribute [local go_sem] max2_int min2_int max_two min_two max_three min_three max_four min_four   -- for this text's walks alone
set_option linter.unusedVariables false
set_option linter.unusedSimpArgs false

/-! ### clusterlocksref08_SameBools: function 23 -/
def clusterlocksref08_SameBools.l0 : Nat → List Bool → List Bool → Int → Option (Bool)
 | 0, _, _, _ => none
 | k + 1, x0, x1, x5 => if x5 < (x0.length : Int) then (if 0 ≤ x5 then (if x5 < (x1.length : Int) then (if ((rdOf false x0 x5) != (rdOf false x1 x5)) = true then (some false) else (clusterlocksref08_SameBools.l0 k x0 x1 (wrap64 (x5 + 1)))) else (none)) else (none)) else (some true)
def clusterlocksref08_SameBools.f (k : Nat) (l0 : List Bool) (l1 : List Bool) : Option (Bool) := if (l0.length : Int) = (l1.length : Int) then (clusterlocksref08_SameBools.l0 k l0 l1 0) else (some false)
theorem clusterlocksref08_SameBools.mono_l : ∀ k, (∀ y0 y1 y2, LeO (clusterlocksref08_SameBools.l0 k y0 y1 y2) (clusterlocksref08_SameBools.l0 (k + 1) y0 y1 y2))
 | 0 => fun _ _ _ r h => by simp [clusterlocksref08_SameBools.l0] at h
 | k + 1 => by
  have ih0 := clusterlocksref08_SameBools.mono_l k
  ·intro y0 y1 y2
   unfold clusterlocksref08_SameBools.l0
   repeat' first
   | (with_reducible exact ih0 _ _ _)
   | (with_reducible exact LeO.refl _)
   | (with_reducible exact LeO.none _)
   | (with_reducible refine LeO.ite ?_ ?_)
   | (with_reducible refine LeO.bind ?_ (fun _ => ?_))
   | exact ih0 _ _ _
   | exact LeO.none _
   | refine LeO.ite ?_ ?_
   | refine LeO.bind ?_ (fun _ => ?_)
theorem clusterlocksref08_SameBools.mono : ∀ a0 a1 k, LeO (clusterlocksref08_SameBools.f k a0 a1) (clusterlocksref08_SameBools.f (k + 1) a0 a1) := by
 intro a0 a1 k
 have ih0 := clusterlocksref08_SameBools.mono_l k
 unfold clusterlocksref08_SameBools.f
 repeat' first
   | (with_reducible exact ih0 _ _ _)
   | (with_reducible exact LeO.refl _)
   | (with_reducible exact LeO.none _)
   | (with_reducible refine LeO.ite ?_ ?_)
   | (with_reducible refine LeO.bind ?_ (fun _ => ?_))
   | exact ih0 _ _ _
   | exact LeO.none _
   | refine LeO.ite ?_ ?_
   | refine LeO.bind ?_ (fun _ => ?_)
set_option maxHeartbeats 8000000 in
set_option maxRecDepth 100000 in
theorem clusterlocksref08_SameBools.calls (k : Nat) (A0 : Option Addr) (c0 : Nat) (l0 : List Bool) (A1 : Option Addr) (c1 : Nat) (l1 : List Bool) (r : Bool) (w : World) (hr0 : Kd.C Kd.bool w A0 l0.length l0) (hc0 : l0.length ≤ c0) (hr1 : Kd.C Kd.bool w A1 l1.length l1) (hc1 : l1.length ≤ c1) (h : clusterlocksref08_SameBools.f k l0 l1 = some r) :
  Calls Try.prog 23 #[.slice A0 l0.length c0, .slice A1 l1.length c1] w fun e w' => e = .returned (.bool r) ∧ Drawn0 w w' := by
 have HR0 := Aside0.mk hr0
 have HC0 := Aside0.mk hc0
 clear hr0 hc0
 have HR1 := Aside0.mk hr1
 have HC1 := Aside0.mk hc1
 clear hr1 hc1
 have H : (if (l0.length : Int) = (l1.length : Int) then (clusterlocksref08_SameBools.l0 k l0 l1 0) else (some false)) = some r := h
 clear h
 by_cases c3 : (l0.length : Int) = (l1.length : Int)
 ·rw [if_pos c3] at H
  have c3b0 : ((l0.length : Int) == (l1.length : Int)) = true := beq_iff_eq.mpr c3
  have c3b1 : ((l0.length : Int) != (l1.length : Int)) = false := bne_eq_false_iff_eq.mpr c3
  have c3b2 : (l0.length == l1.length) = true := by first | simpa using c3 | (simp at c3 ⊢; omega)
  clear c3
  have H' := Aside0.mk H
  clear H
  go_enter Try.func23, Try.ntmps23
  go_wp2
  repeat (go_quiet (fail); try go_wp2)
  go_loopg [5] k (fun kq v5 w' => ∃ (x5_1 : Int), v5 = .int .i64 x5_1 ∧ Aside0 (clusterlocksref08_SameBools.l0 kq l0 l1 x5_1 = some r) ∧ Aside0 (kq ≤ k) ∧ Drawn0 w w')
  case atStart => exact ⟨(0), (by first | rfl | (simp; done) | (simp [*]; done)), H', ⟨Nat.le_refl _⟩, by repeat (first | exact Drawn0.refl _ | apply Drawn0.step)⟩
  case round =>
   clear H'
   try clear c1
   try clear c2
   try clear p2
   try clear c3
   try clear c3b0
   try clear c3b1
   try clear c3b2
   obtain ⟨x5_1, rfl, HA, HK1, ⟨m1, rfl⟩⟩ := hrel
   cases gk with
   | zero => exact absurd HA.out (by simp [clusterlocksref08_SameBools.l0])
   | succ k1 =>
    have H := HA.out
    clear HA
    simp only [clusterlocksref08_SameBools.l0] at H
    by_cases c4 : x5_1 < (l0.length : Int)
    ·rw [if_pos c4] at H
     have c4b0 : decide (x5_1 < (l0.length : Int)) = true := decide_eq_true c4
     clear c4
     by_cases c5 : 0 ≤ x5_1
     ·rw [if_pos c5] at H
      have c5b0 : decide (0 ≤ x5_1) = true := decide_eq_true c5
      clear c5
      by_cases c6 : x5_1 < (l1.length : Int)
      ·rw [if_pos c6] at H
       have c6b0 : decide (x5_1 < (l1.length : Int)) = true := decide_eq_true c6
       clear c6
       by_cases c7 : ((rdOf false l0 x5_1) != (rdOf false l1 x5_1)) = true
       ·rw [if_pos c7] at H
        have c7b0 : ((rdOf false l0 x5_1) != (rdOf false l1 x5_1)) = true := c7
        (try (have c7b1 : decide ((rdOf false l0 x5_1) = (rdOf false l1 x5_1)) = false := by simpa using c7))
        (try (have c7b2 : ((rdOf false l0 x5_1) == (rdOf false l1 x5_1)) = false := by simpa using c7))
        (try (have c7b3 : ¬ ((rdOf false l0 x5_1) = (rdOf false l1 x5_1)) := by simpa using c7))
        clear c7
        obtain rfl := Option.some.inj H
        have p453 : 0 ≤ (x5_1 : Int) := of_decide_eq_true (by first | (with_reducible assumption) | assumption)
        have q453 : x5_1 < (l0.length : Int) := of_decide_eq_true (by first | (with_reducible assumption) | assumption)
        obtain ⟨ad453, e453, hx453_0⟩ := Kd.at_bool HR0.out x5_1 p453 q453
        cases e453
        replace p453 := eq_true p453
        replace q453 := eq_true q453
        have p454 : 0 ≤ (x5_1 : Int) := of_decide_eq_true (by first | (with_reducible assumption) | assumption)
        have q454 : x5_1 < (l1.length : Int) := of_decide_eq_true (by first | (with_reducible assumption) | assumption)
        obtain ⟨ad454, e454, hx454_0⟩ := Kd.at_bool HR1.out x5_1 p454 q454
        cases e454
        replace p454 := eq_true p454
        replace q454 := eq_true q454
        go_wp2
        repeat (go_quiet (fail); try go_wp2)
        go_ret
        exact ⟨by first | rfl | (simp; done) | (simp [*]; done), by repeat (first | exact Drawn0.refl _ | apply Drawn0.step)⟩
       ·rw [if_neg c7] at H
        have c7b0 : ((rdOf false l0 x5_1) != (rdOf false l1 x5_1)) = false := by simpa using c7
        (try (have c7b1 : decide ((rdOf false l0 x5_1) = (rdOf false l1 x5_1)) = true := by simpa using c7))
        (try (have c7b2 : ((rdOf false l0 x5_1) == (rdOf false l1 x5_1)) = true := by simpa using c7))
        clear c7
        have H' := Aside0.mk H
        clear H
        have p453 : 0 ≤ (x5_1 : Int) := of_decide_eq_true (by first | (with_reducible assumption) | assumption)
        have q453 : x5_1 < (l0.length : Int) := of_decide_eq_true (by first | (with_reducible assumption) | assumption)
        obtain ⟨ad453, e453, hx453_0⟩ := Kd.at_bool HR0.out x5_1 p453 q453
        cases e453
        replace p453 := eq_true p453
        replace q453 := eq_true q453
        have p454 : 0 ≤ (x5_1 : Int) := of_decide_eq_true (by first | (with_reducible assumption) | assumption)
        have q454 : x5_1 < (l1.length : Int) := of_decide_eq_true (by first | (with_reducible assumption) | assumption)
        obtain ⟨ad454, e454, hx454_0⟩ := Kd.at_bool HR1.out x5_1 p454 q454
        cases e454
        replace p454 := eq_true p454
        replace q454 := eq_true q454
        go_wp2
        repeat (go_quiet (fail); try go_wp2)
        go_roundg k1
        case measure => have := HK1.out; omega
        case rel => exact ⟨(wrap64 (x5_1 + 1)), (by first | rfl | (simp; done) | (simp [*]; done)), H', ⟨by have := HK1.out; omega⟩, by repeat (first | exact Drawn0.refl _ | apply Drawn0.step)⟩
      ·rw [if_neg c6] at H
       exact absurd H (by simp)
     ·rw [if_neg c5] at H
      exact absurd H (by simp)
    ·rw [if_neg c4] at H
     have c4b0 : decide (x5_1 < (l0.length : Int)) = false := decide_eq_false c4
     clear c4
     obtain rfl := Option.some.inj H
     go_wp2
     repeat (go_quiet (fail); try go_wp2)
     go_ret
     exact ⟨by first | rfl | (simp; done) | (simp [*]; done), by repeat (first | exact Drawn0.refl _ | apply Drawn0.step)⟩
 ·rw [if_neg c3] at H
  have c3b0 : ((l0.length : Int) == (l1.length : Int)) = false := beq_eq_false_iff_ne.mpr c3
  have c3b1 : ((l0.length : Int) != (l1.length : Int)) = true := bne_iff_ne.mpr c3
  have c3b2 : (l0.length == l1.length) = false := by first | simpa using c3 | (simp at c3 ⊢; omega)
  obtain rfl := Option.some.inj H
  go_enter Try.func23, Try.ntmps23
  go_wp2
  repeat (go_quiet (fail); try go_wp2)
  go_ret
  exact ⟨by first | rfl | (simp; done) | (simp [*]; done), by repeat (first | exact Drawn0.refl _ | apply Drawn0.step)⟩

/-! ### clusterlocksref08_Prune: function 25 -/
mutual
def clusterlocksref08_Prune.j0 : Nat → List Bool → List (S25) → List Bool → Bool → Int → ByteArray → Int → Int → List (S28) → Option (List Bool)
 | 0, _, _, _, _, _, _, _, _, _ => none
 | k + 1, x1, x5, x7, x26, x456000, x456001, x456002, x456003, x456004 => if x26 = true then (some x7) else (clusterlocksref08_Prune.l0 k x1 x5 x7 0 x456000 x456001 x456002 x456003 x456004)
def clusterlocksref08_Prune.l0 : Nat → List Bool → List (S25) → List Bool → Int → Int → ByteArray → Int → Int → List (S28) → Option (List Bool)
 | 0, _, _, _, _, _, _, _, _, _ => none
 | k + 1, x1, x5, x7, x8, x456000, x456001, x456002, x456003, x456004 => if x8 < (x5.length : Int) then (if x8 < (x1.length : Int) then (if 0 ≤ x8 then (if x8 < (x7.length : Int) then (clusterlocksref08_Prune.l0 k x1 x5 (x7.set (x8 : Int).toNat (rdOf false x1 x8)) (wrap64 (x8 + 1)) x456000 x456001 x456002 x456003 x456004) else (none)) else (none)) else (if 0 ≤ x8 then (if x8 < (x7.length : Int) then (clusterlocksref08_Prune.l0 k x1 x5 (x7.set (x8 : Int).toNat false) (wrap64 (x8 + 1)) x456000 x456001 x456002 x456003 x456004) else (none)) else (none))) else (clusterlocksref08_Prune.l1 k x5 x7 (wrap64 ((x5.length : Int) - 1)) x456000 x456001 x456002 x456003 x456004)
def clusterlocksref08_Prune.l1 : Nat → List (S25) → List Bool → Int → Int → ByteArray → Int → Int → List (S28) → Option (List Bool)
 | 0, _, _, _, _, _, _, _, _ => none
 | k + 1, x5, x7, x9, x456000, x456001, x456002, x456003, x456004 => if x9 ≥ 0 then (if 0 ≤ x9 then (if x9 < (x7.length : Int) then (if rdOf false x7 x9 = true then ((some (x7.set (x9 : Int).toNat false : List Bool)).bind fun y468 => ((clusterlocksref08_holds.f k x456000 x456001 x456002 x456003 x456004 x5 y468).bind fun t469 => (clusterlocksref08_Prune.l1 k x5 (y468.set (x9 : Int).toNat (!t469)) (wrap64 (x9 - 1)) x456000 x456001 x456002 x456003 x456004))) else (clusterlocksref08_Prune.l1 k x5 x7 (wrap64 (x9 - 1)) x456000 x456001 x456002 x456003 x456004)) else (none)) else (none)) else (some x7)
end
def clusterlocksref08_Prune.f (k : Nat) (a0_0 : Int) (a0_1 : ByteArray) (a0_2 : Int) (a0_3 : Int) (l0_4 : List (S28)) (l1 : List Bool) : Option (List Bool) := (clusterlocksref07_Atoms.f k a0_0 a0_1 a0_2 a0_3 l0_4).bind fun bt456 => (if 0 ≤ (bt456.1.length : Int) then (if ((bt456.1.length : Int) : Int).toNat ≤ 281474976710656 then ((some (List.replicate ((bt456.1.length : Int) : Int).toNat false : List Bool)).bind fun y460 => (if bt456.2 = true then ((clusterlocksref08_holds.f k a0_0 a0_1 a0_2 a0_3 l0_4 bt456.1 l1).bind fun t463 => (clusterlocksref08_Prune.j0 k l1 bt456.1 y460 (!t463) a0_0 a0_1 a0_2 a0_3 l0_4)) else (clusterlocksref08_Prune.j0 k l1 bt456.1 y460 true a0_0 a0_1 a0_2 a0_3 l0_4))) else (none)) else (none))
theorem clusterlocksref08_Prune.mono_l : ∀ k, (∀ y0 y1 y2 y3 y4 y5 y6 y7 y8, LeO (clusterlocksref08_Prune.j0 k y0 y1 y2 y3 y4 y5 y6 y7 y8) (clusterlocksref08_Prune.j0 (k + 1) y0 y1 y2 y3 y4 y5 y6 y7 y8)) ∧ (∀ y0 y1 y2 y3 y4 y5 y6 y7 y8, LeO (clusterlocksref08_Prune.l0 k y0 y1 y2 y3 y4 y5 y6 y7 y8) (clusterlocksref08_Prune.l0 (k + 1) y0 y1 y2 y3 y4 y5 y6 y7 y8)) ∧ (∀ y0 y1 y2 y3 y4 y5 y6 y7, LeO (clusterlocksref08_Prune.l1 k y0 y1 y2 y3 y4 y5 y6 y7) (clusterlocksref08_Prune.l1 (k + 1) y0 y1 y2 y3 y4 y5 y6 y7))
 | 0 => ⟨fun _ _ _ _ _ _ _ _ _ r h => by simp [clusterlocksref08_Prune.j0] at h, fun _ _ _ _ _ _ _ _ _ r h => by simp [clusterlocksref08_Prune.l0] at h, fun _ _ _ _ _ _ _ _ r h => by simp [clusterlocksref08_Prune.l1] at h⟩
 | k + 1 => by
  obtain ⟨ih0, ih1, ih2⟩ := clusterlocksref08_Prune.mono_l k
  refine ⟨?_, ?_, ?_⟩
  ·intro y0 y1 y2 y3 y4 y5 y6 y7 y8
   unfold clusterlocksref08_Prune.j0
   repeat' first
   | (with_reducible exact ih0 _ _ _ _ _ _ _ _ _)
   | (with_reducible exact ih1 _ _ _ _ _ _ _ _ _)
   | (with_reducible exact ih2 _ _ _ _ _ _ _ _)
   | (with_reducible exact clusterlocksref07_Atoms.mono _ _ _ _ _ _)
   | (with_reducible exact clusterlocksref08_holds.mono _ _ _ _ _ _ _ _)
   | (with_reducible exact LeO.refl _)
   | (with_reducible exact LeO.none _)
   | (with_reducible refine LeO.ite ?_ ?_)
   | (with_reducible refine LeO.bind ?_ (fun _ => ?_))
   | exact ih0 _ _ _ _ _ _ _ _ _
   | exact ih1 _ _ _ _ _ _ _ _ _
   | exact ih2 _ _ _ _ _ _ _ _
   | exact clusterlocksref07_Atoms.mono _ _ _ _ _ _
   | exact clusterlocksref08_holds.mono _ _ _ _ _ _ _ _
   | exact LeO.none _
   | refine LeO.ite ?_ ?_
   | refine LeO.bind ?_ (fun _ => ?_)
  ·intro y0 y1 y2 y3 y4 y5 y6 y7 y8
   unfold clusterlocksref08_Prune.l0
   repeat' first
   | (with_reducible exact ih0 _ _ _ _ _ _ _ _ _)
   | (with_reducible exact ih1 _ _ _ _ _ _ _ _ _)
   | (with_reducible exact ih2 _ _ _ _ _ _ _ _)
   | (with_reducible exact clusterlocksref07_Atoms.mono _ _ _ _ _ _)
   | (with_reducible exact clusterlocksref08_holds.mono _ _ _ _ _ _ _ _)
   | (with_reducible exact LeO.refl _)
   | (with_reducible exact LeO.none _)
   | (with_reducible refine LeO.ite ?_ ?_)
   | (with_reducible refine LeO.bind ?_ (fun _ => ?_))
   | exact ih0 _ _ _ _ _ _ _ _ _
   | exact ih1 _ _ _ _ _ _ _ _ _
   | exact ih2 _ _ _ _ _ _ _ _
   | exact clusterlocksref07_Atoms.mono _ _ _ _ _ _
   | exact clusterlocksref08_holds.mono _ _ _ _ _ _ _ _
   | exact LeO.none _
   | refine LeO.ite ?_ ?_
   | refine LeO.bind ?_ (fun _ => ?_)
  ·intro y0 y1 y2 y3 y4 y5 y6 y7
   unfold clusterlocksref08_Prune.l1
   repeat' first
   | (with_reducible exact ih0 _ _ _ _ _ _ _ _ _)
   | (with_reducible exact ih1 _ _ _ _ _ _ _ _ _)
   | (with_reducible exact ih2 _ _ _ _ _ _ _ _)
   | (with_reducible exact clusterlocksref07_Atoms.mono _ _ _ _ _ _)
   | (with_reducible exact clusterlocksref08_holds.mono _ _ _ _ _ _ _ _)
   | (with_reducible exact LeO.refl _)
   | (with_reducible exact LeO.none _)
   | (with_reducible refine LeO.ite ?_ ?_)
   | (with_reducible refine LeO.bind ?_ (fun _ => ?_))
   | exact ih0 _ _ _ _ _ _ _ _ _
   | exact ih1 _ _ _ _ _ _ _ _ _
   | exact ih2 _ _ _ _ _ _ _ _
   | exact clusterlocksref07_Atoms.mono _ _ _ _ _ _
   | exact clusterlocksref08_holds.mono _ _ _ _ _ _ _ _
   | exact LeO.none _
   | refine LeO.ite ?_ ?_
   | refine LeO.bind ?_ (fun _ => ?_)
theorem clusterlocksref08_Prune.mono : ∀ a0 a1 a2 a3 a4 a5 k, LeO (clusterlocksref08_Prune.f k a0 a1 a2 a3 a4 a5) (clusterlocksref08_Prune.f (k + 1) a0 a1 a2 a3 a4 a5) := by
 intro a0 a1 a2 a3 a4 a5 k
 obtain ⟨ih0, ih1, ih2⟩ := clusterlocksref08_Prune.mono_l k
 unfold clusterlocksref08_Prune.f
 repeat' first
   | (with_reducible exact ih0 _ _ _ _ _ _ _ _ _)
   | (with_reducible exact ih1 _ _ _ _ _ _ _ _ _)
   | (with_reducible exact ih2 _ _ _ _ _ _ _ _)
   | (with_reducible exact clusterlocksref07_Atoms.mono _ _ _ _ _ _)
   | (with_reducible exact clusterlocksref08_holds.mono _ _ _ _ _ _ _ _)
   | (with_reducible exact LeO.refl _)
   | (with_reducible exact LeO.none _)
   | (with_reducible refine LeO.ite ?_ ?_)
   | (with_reducible refine LeO.bind ?_ (fun _ => ?_))
   | exact ih0 _ _ _ _ _ _ _ _ _
   | exact ih1 _ _ _ _ _ _ _ _ _
   | exact ih2 _ _ _ _ _ _ _ _
   | exact clusterlocksref07_Atoms.mono _ _ _ _ _ _
   | exact clusterlocksref08_holds.mono _ _ _ _ _ _ _ _
   | exact LeO.none _
   | refine LeO.ite ?_ ?_
   | refine LeO.bind ?_ (fun _ => ?_)
set_option maxHeartbeats 8000000 in
set_option maxRecDepth 100000 in
theorem clusterlocksref08_Prune.calls (k : Nat) (a0_0 : Int) (a0_1 : ByteArray) (a0_2 : Int) (a0_3 : Int) (A0_4 : Option Addr) (c0_4 : Nat) (l0_4 : List (S28)) (A1 : Option Addr) (c1 : Nat) (l1 : List Bool) (r : List Bool) (w : World) (hr0_4 : Kd.C k28 w A0_4 l0_4.length l0_4) (hc0_4 : l0_4.length ≤ c0_4) (hr1 : Kd.C Kd.bool w A1 l1.length l1) (hc1 : l1.length ≤ c1) (h : clusterlocksref08_Prune.f k a0_0 a0_1 a0_2 a0_3 l0_4 l1 = some r) :
  Calls Try.prog 25 #[.agg #[.int .i64 a0_0, .string a0_1, .int .i64 a0_2, .int .i64 a0_3, .slice A0_4 l0_4.length c0_4], .slice A1 l1.length c1] w fun e w' => ∃ v0_ : Value, e = .returned (v0_) ∧ Kd.R Kd.bool 4 w' w.heap.size (fun _ => True) v0_ r ∧ Below w.heap.size w w' := by
 have hu28 := Try.underlying28
 have HR0_4 := Aside0.mk hr0_4
 have HC0_4 := Aside0.mk hc0_4
 clear hr0_4 hc0_4
 have HR1 := Aside0.mk hr1
 have HC1 := Aside0.mk hc1
 clear hr1 hc1
 have HB := am (Below.refl w.heap.size w)
 have H : ((clusterlocksref07_Atoms.f k a0_0 a0_1 a0_2 a0_3 l0_4).bind fun bt456 => (if 0 ≤ (bt456.1.length : Int) then (if ((bt456.1.length : Int) : Int).toNat ≤ 281474976710656 then ((some (List.replicate ((bt456.1.length : Int) : Int).toNat false : List Bool)).bind fun y460 => (if bt456.2 = true then ((clusterlocksref08_holds.f k a0_0 a0_1 a0_2 a0_3 l0_4 bt456.1 l1).bind fun t463 => (clusterlocksref08_Prune.j0 k l1 bt456.1 y460 (!t463) a0_0 a0_1 a0_2 a0_3 l0_4)) else (clusterlocksref08_Prune.j0 k l1 bt456.1 y460 true a0_0 a0_1 a0_2 a0_3 l0_4))) else (none)) else (none))) = some r := h
 clear h
 replace H := Option.bind_eq_some_iff.mp H
 obtain ⟨⟨t456, t459⟩, A30, H⟩ := H
 replace H : (if 0 ≤ (t456.length : Int) then (if ((t456.length : Int) : Int).toNat ≤ 281474976710656 then ((some (List.replicate ((t456.length : Int) : Int).toNat false : List Bool)).bind fun y460 => (if t459 = true then ((clusterlocksref08_holds.f k a0_0 a0_1 a0_2 a0_3 l0_4 t456 l1).bind fun t463 => (clusterlocksref08_Prune.j0 k l1 t456 y460 (!t463) a0_0 a0_1 a0_2 a0_3 l0_4)) else (clusterlocksref08_Prune.j0 k l1 t456 y460 true a0_0 a0_1 a0_2 a0_3 l0_4))) else (none)) else (none)) = some r := H
 have A3 := Aside0.mk A30
 clear A30
 by_cases c4 : 0 ≤ (t456.length : Int)
 ·rw [if_pos c4] at H
  have c4b0 := eq_true c4
  have c4b1 : decide (0 ≤ (t456.length : Int)) = true := decide_eq_true c4
  clear c4
  by_cases c5 : ((t456.length : Int) : Int).toNat ≤ 281474976710656
  ·rw [if_pos c5] at H
   have c5b0 := eq_true c5
   have c5b1 : decide (((t456.length : Int) : Int).toNat ≤ 281474976710656) = true := decide_eq_true c5
   clear c5
   obtain ⟨y460, hy460⟩ : ∃ y_ : List Bool, y_ = (List.replicate ((t456.length : Int) : Int).toNat false) := ⟨_, rfl⟩
   replace H : (if t459 = true then ((clusterlocksref08_holds.f k a0_0 a0_1 a0_2 a0_3 l0_4 t456 l1).bind fun t463 => (clusterlocksref08_Prune.j0 k l1 t456 y460 (!t463) a0_0 a0_1 a0_2 a0_3 l0_4)) else (clusterlocksref08_Prune.j0 k l1 t456 y460 true a0_0 a0_1 a0_2 a0_3 l0_4)) = some r := by first | (rw [hy460]; with_reducible exact H) | (have H2_ := (Option.bind_some _ _).symm.trans H; rw [hy460]; with_reducible exact H2_) | (have H2_ := (Option.bind_some _ _).symm.trans H; with_reducible exact H2_) | with_reducible exact H | (rw [hy460]; exact H) | exact H
   have Ny460 := Aside0.mk hy460
   clear hy460
   have HC6 := Aside0.mk H
   clear H
   go_enter Try.func25, Try.ntmps25
   go_upto_region 3 with (first | ((with_reducible refine gate_dst (N := 2) rfl ?_); refine box_event ?hg (N := 2) ?hd (cs := #[.int .i64 a0_0, .string a0_1, .int .i64 a0_2, .int .i64 a0_3, .slice A0_4 l0_4.length c0_4]) (t := 28) ?hr ?_; (case hd => rfl); (case hg => rfl); (case hr => first | (go_simp; done) | (go_simp; rfl)); intro gb455 hg w7 hbox hb; have n0_ := am (below_step (zL HB.out) hb); have n1_ := am (hbox); have n2_ := am (zS hg HB.out); have n3_ := am (zS hg HB.out); clear HB; have HB := n0_; have BK455 := n1_; have GW455 := n2_; have GE455 := n3_; clear n0_ n1_ n2_ n3_; clear hb hbox hg; obtain ⟨hcz8_0, hcz8_1, hcz8_2, hcz8_3, hcz8_4, hfz8_0, hfz8_1, hfz8_2, hfz8_3, hfz8_4⟩ := b5 BK455.out) | ((with_reducible refine gate_callee (f := 32) rfl ?_); refine goesL_ (some 12) rfl rfl Try.func32 (by kernel_rfl) rfl #[.agg #[.int .i64 a0_0, .string a0_1, .int .i64 a0_2, .int .i64 a0_3, .slice A0_4 l0_4.length c0_4]] rfl mp1 ?_; (with_reducible refine (clusterlocksref07_Atoms.calls k a0_0 a0_1 a0_2 a0_3 _ _ l0_4 t456 t459 _ ?side1 ?side2 A3.out).mono ?_); (case side1 => exact zC (Kd.C_below HR0_4.out HB.out)); (case side2 => exact HC0_4.out); rintro e w9 ⟨v457, rfl, ho0, hb⟩; refine ⟨_, rfl, ?_⟩; have n0_ := am (Kd.R_lower ho0 (below_size (zL HB.out))); have n1_ := am (blk_below (zB BK455.out) hb); have n2_ := am (below_step (zL HB.out) hb); clear BK455 HB; have HO458 := n0_; have BK455 := n1_; have HB := n2_; clear n0_ n1_ n2_; (try clear hb); (try clear hb2); (try clear hk); (try clear hi); (try clear ho0); obtain ⟨Ao10, co10, eo10⟩ := Kd.R_slice HO458.out; subst eo10) | ((with_reducible refine gate_dst (N := 17) rfl ?_); refine Kd.R_make Kd.bool _ 4 rfl (N := 17) rfl 33 _ _ rfl (t456.length : Int) rfl rfl Try.underlying33 (.bool false) 1 info4 rfl (by decide) (by omega) false (ok := fun _ => True) (okp := fun _ => True) rfl (fun _ hk => hk) trivial (of_decide_eq_true (by first | (with_reducible assumption) | assumption)) (Nat.le_trans (Nat.mul_le_mul_right _ (of_decide_eq_true (by first | (with_reducible assumption) | assumption) : (t456.length : Int).toNat ≤ 281474976710656)) (by omega)) (Below.refl _ _) (Nat.le_refl _) ?_; intro v461 w11 ho12 hb hg_ hnew_; clear hg_ hnew_; (first | rw [← Ny460.out] at ho12 | (simp only [Int.reduceToNat] at ho12; rw [← Ny460.out] at ho12)); have n0_ := am (Kd.R_below (zR HO458.out) hb); have n1_ := am (Kd.R_lower ho12 (below_size (zL HB.out))); have n2_ := am (blk_below (zB BK455.out) hb); have n3_ := am (below_step (zL HB.out) hb); clear HO458 BK455 HB; have HO458 := n0_; have HO462 := n1_; have BK455 := n2_; have HB := n3_; clear n0_ n1_ n2_ n3_; clear hb ho12))
   (try simp only [Act.put, List.setIfInBounds_toArray, List.set_cons_zero, List.set_cons_succ])
   go_cut [26] (fun v26 wc => ∃ (kq : Nat) (x26_5 : Bool), v26 = .bool x26_5 ∧ Aside0 (clusterlocksref08_Prune.j0 kq l1 t456 y460 x26_5 a0_0 a0_1 a0_2 a0_3 l0_4 = some r) ∧ Aside0 (kq ≤ k) ∧ Aside0 (Kd.R k25 25 wc w.heap.size (fun _ => True) (.slice Ao10 t456.length co10) t456) ∧ Aside0 (Kd.R Kd.bool 4 wc w.heap.size (fun _ => True) v461 y460) ∧ Aside0 (wc.heap[gb455]? = some (.cells #[.int .i64 a0_0, .string a0_1, .int .i64 a0_2, .int .i64 a0_3, (.slice A0_4 l0_4.length c0_4)] 28 (0, 0))) ∧ Aside0 (Below w.heap.size w wc))
   case first =>
    have H := HC6.out
    clear HC6
    by_cases c13 : t459 = true
    ·subst c13
     have H1 : ((clusterlocksref08_holds.f k a0_0 a0_1 a0_2 a0_3 l0_4 t456 l1).bind fun t463 => (clusterlocksref08_Prune.j0 k l1 t456 y460 (!t463) a0_0 a0_1 a0_2 a0_3 l0_4)) = some r := by rw [if_pos rfl] at H; exact H
     clear H
     have H := H1
     clear H1
     replace H := Option.bind_eq_some_iff.mp H
     obtain ⟨t463, A140, H⟩ := H
     replace H : (clusterlocksref08_Prune.j0 k l1 t456 y460 (!t463) a0_0 a0_1 a0_2 a0_3 l0_4) = some r := H
     have A14 := Aside0.mk A140
     clear A140
     have H' := Aside0.mk H
     clear H
     obtain ⟨hcz15_0, hcz15_1, hcz15_2, hcz15_3, hcz15_4, hfz15_0, hfz15_1, hfz15_2, hfz15_3, hfz15_4⟩ := b5 BK455.out
     go_wp2_with (first | (go_at_call 34; (with_reducible refine (clusterlocksref08_holds.calls k a0_0 a0_1 a0_2 a0_3 _ _ l0_4 _ _ t456 _ _ l1 t463 _ ?side1 ?side2 ?side3 ?side4 ?side5 ?side6 A14.out).mono ?_); (case side1 => exact zC (Kd.C_below HR0_4.out HB.out)); (case side2 => exact HC0_4.out); (case side3 => exact zC (Kd.R_reads' HO458.out).2.2); (case side4 => exact (Kd.R_reads' HO458.out).2.1); (case side5 => exact zC (Kd.C_below HR1.out HB.out)); (case side6 => exact HC1.out); rintro e w16 ⟨rfl, hb⟩; have n0_ := am (Kd.R_below (zR HO458.out) hb); have n1_ := am (Kd.R_below (zR HO462.out) hb); have n2_ := am (blk_below (zB BK455.out) hb); have n3_ := am (below_step (zL HB.out) hb); clear HO458 HO462 BK455 HB; have HO458 := n0_; have HO462 := n1_; have BK455 := n2_; have HB := n3_; clear n0_ n1_ n2_ n3_; (try clear hb); (try clear hb2); (try clear hk); (try clear hi)))
     go_meet
     case rel => exact ⟨_, (!t463), (by first | rfl | (simp; done) | (simp [*]; done)), H', ⟨by first | omega | exact Nat.le_refl _⟩, ⟨by exact zR HO458.out⟩, ⟨by exact zR HO462.out⟩, ⟨by exact zB <| BK455.out⟩, ⟨by repeat (first | (with_reducible first | exact HB.out | apply ba | apply bd | apply be | refine below_set ?_ GE455.out) | exact HB.out)⟩⟩
    ·replace c13 := Bool.eq_false_iff.mpr c13
     subst c13
     have H1 : (clusterlocksref08_Prune.j0 k l1 t456 y460 true a0_0 a0_1 a0_2 a0_3 l0_4) = some r := by rw [if_neg (show ¬ (false = true) by decide)] at H; exact H
     clear H
     have H := H1
     clear H1
     have H' := Aside0.mk H
     clear H
     go_wp2
     go_meet
     case rel => exact ⟨_, (true), (by first | rfl | (simp; done) | (simp [*]; done)), H', ⟨by first | omega | exact Nat.le_refl _⟩, ⟨by exact zR HO458.out⟩, ⟨by exact zR HO462.out⟩, ⟨by exact zB <| BK455.out⟩, ⟨by repeat (first | (with_reducible first | exact HB.out | apply ba | apply bd | apply be | refine below_set ?_ GE455.out) | exact HB.out)⟩⟩
   case rest =>
    clear HC6
    try clear c1
    try clear c2
    try clear p2
    try clear c3
    try clear c4
    try clear c4b0
    try clear c4b1
    try clear c5
    try clear c5b0
    try clear c5b1
    try clear c13
    try clear hcz15_0
    try clear hcz15_1
    try clear hcz15_2
    try clear hcz15_3
    try clear hcz15_4
    try clear hcz8_0
    try clear hcz8_1
    try clear hcz8_2
    try clear hcz8_3
    try clear hcz8_4
    try clear hfz15_0
    try clear hfz15_1
    try clear hfz15_2
    try clear hfz15_3
    try clear hfz15_4
    try clear hfz8_0
    try clear hfz8_1
    try clear hfz8_2
    try clear hfz8_3
    try clear hfz8_4
    obtain ⟨kq, x26_5, rfl, HA, HJ5, HO_5, HO_7, BK455, HB⟩ := hcut
    cases kq with
    | zero => exact absurd HA.out (by simp [clusterlocksref08_Prune.j0])
    | succ kj5 =>
     have H := HA.out
     clear HA
     simp only [clusterlocksref08_Prune.j0] at H
     by_cases c17 : x26_5 = true
     ·subst c17
      have H1 : (some y460) = some r := by rw [if_pos rfl] at H; exact H
      clear H
      have H := H1
      clear H1
      obtain rfl := Option.some.inj H
      go_wp2
      go_ret
      exact ⟨_, by first | rfl | (simp [errW_none, errW_some] <;> rfl) | (simp [*, errW_none, errW_some] <;> rfl), by exact zR HO_7.out, by repeat (first | (with_reducible first | exact HB.out | apply ba | apply bd | apply be | refine below_set ?_ GE455.out) | exact HB.out)⟩
     ·replace c17 := Bool.eq_false_iff.mpr c17
      subst c17
      have H1 : (clusterlocksref08_Prune.l0 kj5 l1 t456 y460 0 a0_0 a0_1 a0_2 a0_3 l0_4) = some r := by rw [if_neg (show ¬ (false = true) by decide)] at H; exact H
      clear H
      have H := H1
      clear H1
      have H' := Aside0.mk H
      clear H
      go_wp2
      go_loopg [8] kj5 (fun kq v8 w' => ∃ (x7_2 : List Bool) (x8_2 : Int), v8 = .int .i64 x8_2 ∧ Aside0 (clusterlocksref08_Prune.l0 kq l1 t456 x7_2 x8_2 a0_0 a0_1 a0_2 a0_3 l0_4 = some r) ∧ Aside0 (kq ≤ kj5) ∧ Aside0 (Kd.R k25 25 w' w.heap.size (fun _ => True) (.slice Ao10 t456.length co10) t456) ∧ Aside0 (Kd.R Kd.bool 4 w' w.heap.size (fun _ => True) v461 x7_2) ∧ Aside0 (w'.heap[gb455]? = some (.cells #[.int .i64 a0_0, .string a0_1, .int .i64 a0_2, .int .i64 a0_3, (.slice A0_4 l0_4.length c0_4)] 28 (0, 0))) ∧ Aside0 (Below w.heap.size w w'))
      case atStart => exact ⟨(y460), (0), (by first | rfl | (simp; done) | (simp [*]; done)), H', ⟨Nat.le_refl _⟩, ⟨by exact zR HO_5.out⟩, ⟨by exact zR HO_7.out⟩, ⟨by exact zB <| BK455.out⟩, ⟨by repeat (first | (with_reducible first | exact HB.out | apply ba | apply bd | apply be | refine below_set ?_ GE455.out) | exact HB.out)⟩⟩
      case round =>
       clear H'
       try clear c1
       try clear c2
       try clear p2
       try clear c3
       try clear c4
       try clear c4b0
       try clear c4b1
       try clear c5
       try clear c5b0
       try clear c5b1
       try clear c13
       try clear c17
       try clear hcz15_0
       try clear hcz15_1
       try clear hcz15_2
       try clear hcz15_3
       try clear hcz15_4
       try clear hcz8_0
       try clear hcz8_1
       try clear hcz8_2
       try clear hcz8_3
       try clear hcz8_4
       try clear hfz15_0
       try clear hfz15_1
       try clear hfz15_2
       try clear hfz15_3
       try clear hfz15_4
       try clear hfz8_0
       try clear hfz8_1
       try clear hfz8_2
       try clear hfz8_3
       try clear hfz8_4
       try clear p2
       obtain ⟨x7_2, x8_2, rfl, HA, HK2, HO_5, HO_7, BK455, HB⟩ := hrel
       cases gk with
       | zero => exact absurd HA.out (by simp [clusterlocksref08_Prune.l0])
       | succ k2 =>
        have H := HA.out
        clear HA
        simp only [clusterlocksref08_Prune.l0] at H
        by_cases c18 : x8_2 < (t456.length : Int)
        ·rw [if_pos c18] at H
         have c18b0 : decide (x8_2 < (t456.length : Int)) = true := decide_eq_true c18
         clear c18
         by_cases c19 : x8_2 < (l1.length : Int)
         ·rw [if_pos c19] at H
          have c19b0 : decide (x8_2 < (l1.length : Int)) = true := decide_eq_true c19
          clear c19
          by_cases c20 : 0 ≤ x8_2
          ·rw [if_pos c20] at H
           have c20b0 : decide (0 ≤ x8_2) = true := decide_eq_true c20
           clear c20
           by_cases c21 : x8_2 < (x7_2.length : Int)
           ·rw [if_pos c21] at H
            have c21b0 : decide (x8_2 < (x7_2.length : Int)) = true := decide_eq_true c21
            clear c21
            obtain ⟨y465, hy465⟩ : ∃ y_ : List Bool, y_ = (x7_2.set (x8_2 : Int).toNat (rdOf false l1 x8_2)) := ⟨_, rfl⟩
            replace H : (clusterlocksref08_Prune.l0 k2 l1 t456 y465 (wrap64 (x8_2 + 1)) a0_0 a0_1 a0_2 a0_3 l0_4) = some r := by first | (rw [hy465]; with_reducible exact H) | (have H2_ := (Option.bind_some _ _).symm.trans H; rw [hy465]; with_reducible exact H2_) | (have H2_ := (Option.bind_some _ _).symm.trans H; with_reducible exact H2_) | with_reducible exact H | (rw [hy465]; exact H) | exact H
            have Ny465 := Aside0.mk hy465
            clear hy465
            have H' := Aside0.mk H
            clear H
            have p464 : 0 ≤ (x8_2 : Int) := of_decide_eq_true (by first | (with_reducible assumption) | assumption)
            have q464 : x8_2 < (l1.length : Int) := of_decide_eq_true (by first | (with_reducible assumption) | assumption)
            obtain ⟨ad464, e464, hx464_0⟩ := Kd.at_bool HR1.out x8_2 p464 q464
            cases e464
            replace hx464_0 := (HB.out.cell (World.block_lt_of_cell? w _ hx464_0)).trans hx464_0
            replace p464 := eq_true p464
            replace q464 := eq_true q464
            have p22 : 0 ≤ (x8_2 : Int) := of_decide_eq_true (by first | (with_reducible assumption) | assumption)
            have q22 : (x8_2 : Int) < ((x7_2.length : Int) : Int) := of_decide_eq_true (by first | (with_reducible assumption) | assumption)
            obtain ⟨go22, co22, eo22, gb22, gl22, cl22, HG22⟩ := Kd.R_form HO_7.out (by omega)
            (first | cases eo22 | (injection eo22 with ea_ en_ ec_; (first | subst ea_ | (injection ea_ with ea_; subst ea_)); subst ec_; clear en_))
            have GB22 := Aside0.mk gb22
            have GG22 := Aside0.mk HG22
            clear gb22 gl22 HG22
            obtain ⟨hx22_0, hf22_0⟩ := Kd.R_celln false HO_7.out (x8_2 : Int) p22 q22
            replace p22 := eq_true p22
            replace q22 := eq_true q22
            have HP23 := Kd.R_putg HO_7.out (x8_2 : Int) (rdOf false l1 x8_2)
            go_wp2_with (first | ((with_reducible refine gate_store (t := 4) (p := 46) rfl ?_); refine store_event (t := 4) (p := 46) (v := ?vo_w24) (w1 := (wr.setCell ⟨go22, (x8_2 : Int).toNat, none⟩ (.bool (rdOf false l1 x8_2)))) ?hg ?ho ?hn ?hr ?_; (case ho => rfl); (case hg => rfl); (case hn => rfl); (case hr => first | (go_simp; done) | (go_simp; rfl)); intro w24 hw; have hg : wr.grownBy w24 (some go22) := (by rw [hw]; exact HP23.2); have hp_ : Kd.R Kd.bool 4 w24 w.heap.size (fun _ => True) (.slice (some ⟨go22, 0, none⟩) x7_2.length co22) y465 := (by rw [hw, Ny465.out]; exact HP23.1); clear HP23; have n0_ := am (Kd.R_over' (v := (.slice (some ⟨go22, 0, none⟩) x7_2.length co22)) (zR HO_5.out) (Kd.R_typed HO_7.out) (by decide) hg); have n1_ := am (hp_); have n2_ := am (blk_grown (g := gb455) (o := .cells #[.int .i64 a0_0, .string a0_1, .int .i64 a0_2, .int .i64 a0_3, .slice A0_4 l0_4.length c0_4] 28 (0, 0)) (zB BK455.out) hg (Kd.R_ne HO_7.out BK455.out (by decide))); have n3_ := am ((by rw [hw]; exact below_set (HB.out) GB22.out : Below w.heap.size w w24)); clear HO_5 HO_7 BK455 HB; have HO_5 := n0_; have HO_7 := n1_; have BK455 := n2_; have HB := n3_; clear n0_ n1_ n2_ n3_; clear hg hw hp_))
            go_roundg k2
            case measure => have := HJ5.out; have := HK2.out; omega
            case rel => exact ⟨(y465), (wrap64 (x8_2 + 1)), (by first | rfl | (simp; done) | (simp [*]; done)), H', ⟨by have := HJ5.out; have := HK2.out; omega⟩, ⟨by exact zR HO_5.out⟩, ⟨by exact zR HO_7.out⟩, ⟨by exact zB <| BK455.out⟩, ⟨by repeat (first | (with_reducible first | exact HB.out | apply ba | apply bd | apply be | refine below_set ?_ GE455.out) | exact HB.out)⟩⟩
           ·rw [if_neg c21] at H
            exact absurd H (by simp)
          ·rw [if_neg c20] at H
           exact absurd H (by simp)
         ·rw [if_neg c19] at H
          have c19b0 : decide (x8_2 < (l1.length : Int)) = false := decide_eq_false c19
          clear c19
          by_cases c25 : 0 ≤ x8_2
          ·rw [if_pos c25] at H
           have c25b0 : decide (0 ≤ x8_2) = true := decide_eq_true c25
           clear c25
           by_cases c26 : x8_2 < (x7_2.length : Int)
           ·rw [if_pos c26] at H
            have c26b0 : decide (x8_2 < (x7_2.length : Int)) = true := decide_eq_true c26
            clear c26
            obtain ⟨y466, hy466⟩ : ∃ y_ : List Bool, y_ = (x7_2.set (x8_2 : Int).toNat false) := ⟨_, rfl⟩
            replace H : (clusterlocksref08_Prune.l0 k2 l1 t456 y466 (wrap64 (x8_2 + 1)) a0_0 a0_1 a0_2 a0_3 l0_4) = some r := by first | (rw [hy466]; with_reducible exact H) | (have H2_ := (Option.bind_some _ _).symm.trans H; rw [hy466]; with_reducible exact H2_) | (have H2_ := (Option.bind_some _ _).symm.trans H; with_reducible exact H2_) | with_reducible exact H | (rw [hy466]; exact H) | exact H
            have Ny466 := Aside0.mk hy466
            clear hy466
            have H' := Aside0.mk H
            clear H
            have p27 : 0 ≤ (x8_2 : Int) := of_decide_eq_true (by first | (with_reducible assumption) | assumption)
            have q27 : (x8_2 : Int) < ((x7_2.length : Int) : Int) := of_decide_eq_true (by first | (with_reducible assumption) | assumption)
            obtain ⟨go27, co27, eo27, gb27, gl27, cl27, HG27⟩ := Kd.R_form HO_7.out (by omega)
            (first | cases eo27 | (injection eo27 with ea_ en_ ec_; (first | subst ea_ | (injection ea_ with ea_; subst ea_)); subst ec_; clear en_))
            have GB27 := Aside0.mk gb27
            have GG27 := Aside0.mk HG27
            clear gb27 gl27 HG27
            obtain ⟨hx27_0, hf27_0⟩ := Kd.R_celln false HO_7.out (x8_2 : Int) p27 q27
            replace p27 := eq_true p27
            replace q27 := eq_true q27
            have HP28 := Kd.R_putg HO_7.out (x8_2 : Int) false
            go_wp2_with (first | ((with_reducible refine gate_store (t := 4) (p := 46) rfl ?_); refine store_event (t := 4) (p := 46) (v := ?vo_w29) (w1 := (wr.setCell ⟨go27, (x8_2 : Int).toNat, none⟩ (.bool false))) ?hg ?ho ?hn ?hr ?_; (case ho => rfl); (case hg => rfl); (case hn => rfl); (case hr => first | (go_simp; done) | (go_simp; rfl)); intro w29 hw; have hg : wr.grownBy w29 (some go27) := (by rw [hw]; exact HP28.2); have hp_ : Kd.R Kd.bool 4 w29 w.heap.size (fun _ => True) (.slice (some ⟨go27, 0, none⟩) x7_2.length co27) y466 := (by rw [hw, Ny466.out]; exact HP28.1); clear HP28; have n0_ := am (Kd.R_over' (v := (.slice (some ⟨go27, 0, none⟩) x7_2.length co27)) (zR HO_5.out) (Kd.R_typed HO_7.out) (by decide) hg); have n1_ := am (hp_); have n2_ := am (blk_grown (g := gb455) (o := .cells #[.int .i64 a0_0, .string a0_1, .int .i64 a0_2, .int .i64 a0_3, .slice A0_4 l0_4.length c0_4] 28 (0, 0)) (zB BK455.out) hg (Kd.R_ne HO_7.out BK455.out (by decide))); have n3_ := am ((by rw [hw]; exact below_set (HB.out) GB27.out : Below w.heap.size w w29)); clear HO_5 HO_7 BK455 HB; have HO_5 := n0_; have HO_7 := n1_; have BK455 := n2_; have HB := n3_; clear n0_ n1_ n2_ n3_; clear hg hw hp_))
            go_roundg k2
            case measure => have := HJ5.out; have := HK2.out; omega
            case rel => exact ⟨(y466), (wrap64 (x8_2 + 1)), (by first | rfl | (simp; done) | (simp [*]; done)), H', ⟨by have := HJ5.out; have := HK2.out; omega⟩, ⟨by exact zR HO_5.out⟩, ⟨by exact zR HO_7.out⟩, ⟨by exact zB <| BK455.out⟩, ⟨by repeat (first | (with_reducible first | exact HB.out | apply ba | apply bd | apply be | refine below_set ?_ GE455.out) | exact HB.out)⟩⟩
           ·rw [if_neg c26] at H
            exact absurd H (by simp)
          ·rw [if_neg c25] at H
           exact absurd H (by simp)
        ·rw [if_neg c18] at H
         have c18b0 : decide (x8_2 < (t456.length : Int)) = false := decide_eq_false c18
         clear c18
         have H' := Aside0.mk H
         clear H
         go_wp2
         go_loopg [9] k2 (fun kq v9 w' => ∃ (x7_3 : List Bool) (x9_3 : Int), v9 = .int .i64 x9_3 ∧ Aside0 (clusterlocksref08_Prune.l1 kq t456 x7_3 x9_3 a0_0 a0_1 a0_2 a0_3 l0_4 = some r) ∧ Aside0 (kq ≤ k2) ∧ Aside0 (Kd.R k25 25 w' w.heap.size (fun _ => True) (.slice Ao10 t456.length co10) t456) ∧ Aside0 (Kd.R Kd.bool 4 w' w.heap.size (fun _ => True) v461 x7_3) ∧ Aside0 (w'.heap[gb455]? = some (.cells #[.int .i64 a0_0, .string a0_1, .int .i64 a0_2, .int .i64 a0_3, (.slice A0_4 l0_4.length c0_4)] 28 (0, 0))) ∧ Aside0 (Below w.heap.size w w'))
         case atStart => exact ⟨(x7_2), (wrap64 ((t456.length : Int) - 1)), (by first | rfl | (simp; done) | (simp [*]; done)), H', ⟨Nat.le_refl _⟩, ⟨by exact zR HO_5.out⟩, ⟨by exact zR HO_7.out⟩, ⟨by exact zB <| BK455.out⟩, ⟨by repeat (first | (with_reducible first | exact HB.out | apply ba | apply bd | apply be | refine below_set ?_ GE455.out) | exact HB.out)⟩⟩
         case round =>
          clear H'
          try clear c1
          try clear c2
          try clear p2
          try clear q2
          try clear hx2
          try clear hf2
          try clear c3
          try clear c4
          try clear c4b0
          try clear c4b1
          try clear p4
          try clear q4
          try clear hx4
          try clear c5
          try clear c5b0
          try clear c5b1
          try clear p6
          try clear c13
          try clear c17
          try clear c18
          try clear c18b0
          try clear c19
          try clear c19b0
          try clear c20
          try clear c20b0
          try clear c21
          try clear c21b0
          try clear p22
          try clear q22
          try clear hx22
          try clear hf22
          try clear c25
          try clear c25b0
          try clear c26
          try clear c26b0
          try clear p27
          try clear q27
          try clear hx27
          try clear hf27
          try clear hcz15_0
          try clear hcz15_1
          try clear hcz15_2
          try clear hcz15_3
          try clear hcz15_4
          try clear hcz8_0
          try clear hcz8_1
          try clear hcz8_2
          try clear hcz8_3
          try clear hcz8_4
          try clear hfz15_0
          try clear hfz15_1
          try clear hfz15_2
          try clear hfz15_3
          try clear hfz15_4
          try clear hfz8_0
          try clear hfz8_1
          try clear hfz8_2
          try clear hfz8_3
          try clear hfz8_4
          try clear hx22_0
          try clear hx27_0
          try clear hx464_0
          try clear p2
          try clear p22
          try clear p27
          try clear p464
          try clear q22
          try clear q27
          try clear q464
          obtain ⟨x7_3, x9_3, rfl, HA, HK3, HO_5, HO_7, BK455, HB⟩ := hrel
          cases gk with
          | zero => exact absurd HA.out (by simp [clusterlocksref08_Prune.l1])
          | succ k3 =>
           have H := HA.out
           clear HA
           simp only [clusterlocksref08_Prune.l1] at H
           by_cases c30 : x9_3 ≥ 0
           ·rw [if_pos c30] at H
            have c30b0 : decide (0 ≤ x9_3) = true := decide_eq_true c30
            clear c30
            by_cases c31 : 0 ≤ x9_3
            ·rw [if_pos c31] at H
             have c31b0 : decide (0 ≤ x9_3) = true := decide_eq_true c31
             clear c31
             by_cases c32 : x9_3 < (x7_3.length : Int)
             ·rw [if_pos c32] at H
              have c32b0 : decide (x9_3 < (x7_3.length : Int)) = true := decide_eq_true c32
              clear c32
              obtain ⟨bq33, hbq33⟩ : ∃ b_ : Bool, b_ = (rdOf false x7_3 x9_3) := ⟨_, rfl⟩
              replace H : (if bq33 = true then ((some (x7_3.set (x9_3 : Int).toNat false : List Bool)).bind fun y468 => ((clusterlocksref08_holds.f k3 a0_0 a0_1 a0_2 a0_3 l0_4 t456 y468).bind fun t469 => (clusterlocksref08_Prune.l1 k3 t456 (y468.set (x9_3 : Int).toNat (!t469)) (wrap64 (x9_3 - 1)) a0_0 a0_1 a0_2 a0_3 l0_4))) else (clusterlocksref08_Prune.l1 k3 t456 x7_3 (wrap64 (x9_3 - 1)) a0_0 a0_1 a0_2 a0_3 l0_4)) = some r := by rw [← hbq33] at H; exact H
              have Nbq33 := Aside0.mk hbq33
              clear hbq33
              by_cases c34 : bq33 = true
              ·subst c34
               have H1 : ((some (x7_3.set (x9_3 : Int).toNat false : List Bool)).bind fun y468 => ((clusterlocksref08_holds.f k3 a0_0 a0_1 a0_2 a0_3 l0_4 t456 y468).bind fun t469 => (clusterlocksref08_Prune.l1 k3 t456 (y468.set (x9_3 : Int).toNat (!t469)) (wrap64 (x9_3 - 1)) a0_0 a0_1 a0_2 a0_3 l0_4))) = some r := by rw [if_pos rfl] at H; exact H
               clear H
               have H := H1
               clear H1
               obtain ⟨y468, hy468⟩ : ∃ y_ : List Bool, y_ = (x7_3.set (x9_3 : Int).toNat false) := ⟨_, rfl⟩
               replace H : ((clusterlocksref08_holds.f k3 a0_0 a0_1 a0_2 a0_3 l0_4 t456 y468).bind fun t469 => (clusterlocksref08_Prune.l1 k3 t456 (y468.set (x9_3 : Int).toNat (!t469)) (wrap64 (x9_3 - 1)) a0_0 a0_1 a0_2 a0_3 l0_4)) = some r := by first | (rw [hy468]; with_reducible exact H) | (have H2_ := (Option.bind_some _ _).symm.trans H; rw [hy468]; with_reducible exact H2_) | (have H2_ := (Option.bind_some _ _).symm.trans H; with_reducible exact H2_) | with_reducible exact H | (rw [hy468]; exact H) | exact H
               have Ny468 := Aside0.mk hy468
               clear hy468
               replace H := Option.bind_eq_some_iff.mp H
               obtain ⟨t469, A360, H⟩ := H
               replace H : (clusterlocksref08_Prune.l1 k3 t456 (y468.set (x9_3 : Int).toNat (!t469)) (wrap64 (x9_3 - 1)) a0_0 a0_1 a0_2 a0_3 l0_4) = some r := H
               have A36 := Aside0.mk A360
               clear A360
               obtain ⟨y470, hy470⟩ : ∃ y_ : List Bool, y_ = (y468.set (x9_3 : Int).toNat (!t469)) := ⟨_, rfl⟩
               replace H : (clusterlocksref08_Prune.l1 k3 t456 y470 (wrap64 (x9_3 - 1)) a0_0 a0_1 a0_2 a0_3 l0_4) = some r := by first | (rw [hy470]; with_reducible exact H) | (have H2_ := (Option.bind_some _ _).symm.trans H; rw [hy470]; with_reducible exact H2_) | (have H2_ := (Option.bind_some _ _).symm.trans H; with_reducible exact H2_) | with_reducible exact H | (rw [hy470]; exact H) | exact H
               have Ny470 := Aside0.mk hy470
               clear hy470
               have H' := Aside0.mk H
               clear H
               obtain ⟨Ao38, co38, eo38⟩ := Kd.R_slice HO_7.out
               subst eo38
               have p467 : 0 ≤ (x9_3 : Int) := of_decide_eq_true (by first | (with_reducible assumption) | assumption)
               have q467 : x9_3 < (x7_3.length : Int) := of_decide_eq_true (by first | (with_reducible assumption) | assumption)
               obtain ⟨ad467, e467, hx467_0⟩ := Kd.at_bool (Kd.R_reads' HO_7.out).2.2 x9_3 p467 q467
               (try rw [← Nbq33.out] at hx467_0)
               cases e467
               replace p467 := eq_true p467
               replace q467 := eq_true q467
               have p35 : 0 ≤ (x9_3 : Int) := of_decide_eq_true (by first | (with_reducible assumption) | assumption)
               have q35 : (x9_3 : Int) < ((x7_3.length : Int) : Int) := of_decide_eq_true (by first | (with_reducible assumption) | assumption)
               obtain ⟨go35, co35, eo35, gb35, gl35, cl35, HG35⟩ := Kd.R_form HO_7.out (by omega)
               (first | cases eo35 | (injection eo35 with ea_ en_ ec_; (first | subst ea_ | (injection ea_ with ea_; subst ea_)); subst ec_; clear en_))
               have GB35 := Aside0.mk gb35
               have GG35 := Aside0.mk HG35
               clear gb35 gl35 HG35
               (first | simp only [add_plain] at hx467_0 | skip)
               obtain ⟨hx35_0, hf35_0⟩ := Kd.R_celln false HO_7.out (x9_3 : Int) p35 q35
               replace p35 := eq_true p35
               replace q35 := eq_true q35
               have HP39 := Kd.R_putg HO_7.out (x9_3 : Int) false
               go_wp2_with (first | ((with_reducible refine gate_store (t := 4) (p := 60) rfl ?_); refine store_event (t := 4) (p := 60) (v := ?vo_w40) (w1 := (wr.setCell ⟨go35, (x9_3 : Int).toNat, none⟩ (.bool false))) ?hg ?ho ?hn ?hr ?_; (case ho => rfl); (case hg => rfl); (case hn => rfl); (case hr => first | (go_simp; done) | (go_simp; rfl)); intro w40 hw; have hg : wr.grownBy w40 (some go35) := (by rw [hw]; exact HP39.2); have hp_ : Kd.R Kd.bool 4 w40 w.heap.size (fun _ => True) (.slice (some ⟨go35, 0, none⟩) x7_3.length co38) y468 := (by rw [hw, Ny468.out]; exact HP39.1); clear HP39; have n0_ := am (Kd.R_over' (v := (.slice (some ⟨go35, 0, none⟩) x7_3.length co38)) (zR HO_5.out) (Kd.R_typed HO_7.out) (by decide) hg); have n1_ := am (hp_); have n2_ := am (blk_grown (g := gb455) (o := .cells #[.int .i64 a0_0, .string a0_1, .int .i64 a0_2, .int .i64 a0_3, .slice A0_4 l0_4.length c0_4] 28 (0, 0)) (zB BK455.out) hg (Kd.R_ne HO_7.out BK455.out (by decide))); have n3_ := am ((by rw [hw]; exact below_set (HB.out) GB35.out : Below w.heap.size w w40)); clear HO_5 HO_7 BK455 HB; have HO_5 := n0_; have HO_7 := n1_; have BK455 := n2_; have HB := n3_; clear n0_ n1_ n2_ n3_; clear hg hw hp_; obtain ⟨hcz41_0, hcz41_1, hcz41_2, hcz41_3, hcz41_4, hfz41_0, hfz41_1, hfz41_2, hfz41_3, hfz41_4⟩ := b5 BK455.out) | ((with_reducible refine gate_callee (f := 34) rfl ?_); refine goesL_ (some 66) rfl rfl Try.func34 (by kernel_rfl) rfl #[.agg #[.int .i64 a0_0, .string a0_1, .int .i64 a0_2, .int .i64 a0_3, .slice A0_4 l0_4.length c0_4], .slice Ao10 t456.length co10, .slice (some ⟨go35, 0, none⟩) y468.length co38] rfl (by (try simp only [List.map_toArray, List.map_cons, List.map_nil]); first | done | (rw [show y468.length = x7_3.length from (Kd.R_reads' HO_7.out).1.symm] <;> rfl) | rfl | (simp only [List.length_drop, List.length_take]; rfl)) ?_; (with_reducible refine (clusterlocksref08_holds.calls k3 a0_0 a0_1 a0_2 a0_3 _ _ l0_4 _ _ t456 _ _ y468 t469 _ ?side1 ?side2 ?side3 ?side4 ?side5 ?side6 A36.out).mono ?_); (case side1 => exact zC (Kd.C_below HR0_4.out HB.out)); (case side2 => exact HC0_4.out); (case side3 => exact zC (Kd.R_reads' HO_5.out).2.2); (case side4 => exact (Kd.R_reads' HO_5.out).2.1); (case side5 => exact zC (Kd.R_reads' HO_7.out).2.2); (case side6 => rw [show y468.length = x7_3.length from (Kd.R_reads' HO_7.out).1.symm]; exact (Kd.R_reads' HO_7.out).2.1); rintro e w42 ⟨rfl, hb⟩; refine ⟨_, rfl, ?_⟩; have n0_ := am (Kd.R_below (zR HO_5.out) hb); have n1_ := am (Kd.R_below (zR HO_7.out) hb); have n2_ := am (blk_below (zB BK455.out) hb); have n3_ := am (below_step (zL HB.out) hb); clear HO_5 HO_7 BK455 HB; have HO_5 := n0_; have HO_7 := n1_; have BK455 := n2_; have HB := n3_; clear n0_ n1_ n2_ n3_; (try clear hb); (try clear hb2); (try clear hk); (try clear hi); have p37 : 0 ≤ (x9_3 : Int) := of_decide_eq_true (by first | (with_reducible assumption) | assumption); have q37 : (x9_3 : Int) < ((x7_3.length : Int) : Int) := of_decide_eq_true (by first | (with_reducible assumption) | assumption); obtain ⟨hx37_0, hf37_0⟩ := Kd.R_celln false HO_7.out (x9_3 : Int) p37 q37; replace p37 := eq_true p37; replace q37 := eq_true q37; obtain ⟨hy43_, hz43_⟩ := Kd.R_celln false HO_7.out (x9_3 : Int) (of_decide_eq_true (by first | (with_reducible assumption) | assumption)) (of_decide_eq_true (by first | (with_reducible assumption) | assumption)); have HP43 := Kd.R_putg HO_7.out (x9_3 : Int) (!t469)) | ((with_reducible refine gate_store (t := 4) (p := 68) rfl ?_); refine store_event (t := 4) (p := 68) (v := ?vo_w44) (w1 := (w42.setCell ⟨go35, (x9_3 : Int).toNat, none⟩ (.bool (!t469)))) ?hg ?ho ?hn ?hr ?_; (case ho => rfl); (case hg => rfl); (case hn => rfl); (case hr => first | (go_simp; done) | (go_simp; rfl)); intro w44 hw; have hg : w42.grownBy w44 (some go35) := (by rw [hw]; exact HP43.2); have hp_ : Kd.R Kd.bool 4 w44 w.heap.size (fun _ => True) (.slice (some ⟨go35, 0, none⟩) x7_3.length co38) y470 := (by rw [hw, Ny470.out]; exact HP43.1); clear HP43; have n0_ := am (Kd.R_over' (v := (.slice (some ⟨go35, 0, none⟩) x7_3.length co38)) (zR HO_5.out) (Kd.R_typed HO_7.out) (by decide) hg); have n1_ := am (hp_); have n2_ := am (blk_grown (g := gb455) (o := .cells #[.int .i64 a0_0, .string a0_1, .int .i64 a0_2, .int .i64 a0_3, .slice A0_4 l0_4.length c0_4] 28 (0, 0)) (zB BK455.out) hg (Kd.R_ne HO_7.out BK455.out (by decide))); have n3_ := am ((by rw [hw]; exact below_set (HB.out) GB35.out : Below w.heap.size w w44)); clear HO_5 HO_7 BK455 HB; have HO_5 := n0_; have HO_7 := n1_; have BK455 := n2_; have HB := n3_; clear n0_ n1_ n2_ n3_; clear hg hw hp_))
               go_roundg k3
               case measure => have := HJ5.out; have := HK2.out; have := HK3.out; omega
               case rel => exact ⟨(y470), (wrap64 (x9_3 - 1)), (by first | rfl | (simp; done) | (simp [*]; done)), H', ⟨by have := HJ5.out; have := HK2.out; have := HK3.out; omega⟩, ⟨by exact zR HO_5.out⟩, ⟨by exact zR HO_7.out⟩, ⟨by exact zB <| BK455.out⟩, ⟨by repeat (first | (with_reducible first | exact HB.out | apply ba | apply bd | apply be | refine below_set ?_ GE455.out) | exact HB.out)⟩⟩
              ·replace c34 := Bool.eq_false_iff.mpr c34
               subst c34
               have H1 : (clusterlocksref08_Prune.l1 k3 t456 x7_3 (wrap64 (x9_3 - 1)) a0_0 a0_1 a0_2 a0_3 l0_4) = some r := by rw [if_neg (show ¬ (false = true) by decide)] at H; exact H
               clear H
               have H := H1
               clear H1
               have H' := Aside0.mk H
               clear H
               obtain ⟨Ao45, co45, eo45⟩ := Kd.R_slice HO_7.out
               subst eo45
               have p467 : 0 ≤ (x9_3 : Int) := of_decide_eq_true (by first | (with_reducible assumption) | assumption)
               have q467 : x9_3 < (x7_3.length : Int) := of_decide_eq_true (by first | (with_reducible assumption) | assumption)
               obtain ⟨ad467, e467, hx467_0⟩ := Kd.at_bool (Kd.R_reads' HO_7.out).2.2 x9_3 p467 q467
               (try rw [← Nbq33.out] at hx467_0)
               cases e467
               replace p467 := eq_true p467
               replace q467 := eq_true q467
               go_wp2
               go_roundg k3
               case measure => have := HJ5.out; have := HK2.out; have := HK3.out; omega
               case rel => exact ⟨(x7_3), (wrap64 (x9_3 - 1)), (by first | rfl | (simp; done) | (simp [*]; done)), H', ⟨by have := HJ5.out; have := HK2.out; have := HK3.out; omega⟩, ⟨by exact zR HO_5.out⟩, ⟨by exact zR HO_7.out⟩, ⟨by exact zB <| BK455.out⟩, ⟨by repeat (first | (with_reducible first | exact HB.out | apply ba | apply bd | apply be | refine below_set ?_ GE455.out) | exact HB.out)⟩⟩
             ·rw [if_neg c32] at H
              exact absurd H (by simp)
            ·rw [if_neg c31] at H
             exact absurd H (by simp)
           ·rw [if_neg c30] at H
            have c30b0 : decide (0 ≤ x9_3) = false := decide_eq_false c30
            clear c30
            obtain rfl := Option.some.inj H
            go_wp2
            go_ret
            exact ⟨_, by first | rfl | (simp [errW_none, errW_some] <;> rfl) | (simp [*, errW_none, errW_some] <;> rfl), by exact zR HO_7.out, by repeat (first | (with_reducible first | exact HB.out | apply ba | apply bd | apply be | refine below_set ?_ GE455.out) | exact HB.out)⟩
  ·rw [if_neg c5] at H
   exact absurd H (by simp)
 ·rw [if_neg c4] at H
  exact absurd H (by simp)

end Go.Proofs.Ytefbcebpokoinaa.Y

-- Laid by a program of this session's (xprint.py, which runs the kit's print.py with patches of its own). Lean checks it.
import Derived.Test.YtefbcebpokoinaaY0
import Derived.Test.YtefbcebpokoinaaY2
namespace Go.Proofs.Ytefbcebpokoinaa.Y
open Go.RowKit Go.Proofs.YtefbcebpokoinaaW.PrintWords Go.Proofs.YtefbcebpokoinaaW.PrintLast Go.Proofs.YtefbcebpokoinaaW.PrintMore
attribute [local go_sem] max2_int min2_int max_two min_two max_three min_three max_four min_four   -- for this text's walks alone
set_option linter.unusedVariables false
set_option linter.unusedSimpArgs false

/-! ### catalog_ValidName: function 55 -/
mutual
def catalog_ValidName.j0 : Nat → ByteArray → Bool → Option (Bool)
 | 0, _, _ => none
 | k + 1, x0, x26 => if x26 = true then (some false) else (catalog_ValidName.l0 k x0 (x0.size : Int) 0)
def catalog_ValidName.l0 : Nat → ByteArray → Int → Int → Option (Bool)
 | 0, _, _, _ => none
 | k + 1, x0, x28, x29 => if x29 < x28 then (if 0 ≤ x29 then (if x29 < (x0.size : Int) then (if (bt x0 x29) < 97 then (if (bt x0 x29) < 48 then (if (bt x0 x29) = 95 then (catalog_ValidName.l0 k x0 x28 (wrap64 (x29 + 1))) else (if (bt x0 x29) = 45 then (catalog_ValidName.l0 k x0 x28 (wrap64 (x29 + 1))) else (some false))) else (if (bt x0 x29) > 57 then (if (bt x0 x29) = 95 then (catalog_ValidName.l0 k x0 x28 (wrap64 (x29 + 1))) else (if (bt x0 x29) = 45 then (catalog_ValidName.l0 k x0 x28 (wrap64 (x29 + 1))) else (some false))) else (catalog_ValidName.l0 k x0 x28 (wrap64 (x29 + 1))))) else (if (bt x0 x29) > 122 then (if (bt x0 x29) < 48 then (if (bt x0 x29) = 95 then (catalog_ValidName.l0 k x0 x28 (wrap64 (x29 + 1))) else (if (bt x0 x29) = 45 then (catalog_ValidName.l0 k x0 x28 (wrap64 (x29 + 1))) else (some false))) else (if (bt x0 x29) > 57 then (if (bt x0 x29) = 95 then (catalog_ValidName.l0 k x0 x28 (wrap64 (x29 + 1))) else (if (bt x0 x29) = 45 then (catalog_ValidName.l0 k x0 x28 (wrap64 (x29 + 1))) else (some false))) else (catalog_ValidName.l0 k x0 x28 (wrap64 (x29 + 1))))) else (catalog_ValidName.l0 k x0 x28 (wrap64 (x29 + 1))))) else (none)) else (none)) else (some true)
end
def catalog_ValidName.f (k : Nat) (a0 : ByteArray) : Option (Bool) := if (a0.size : Int) = 0 then (catalog_ValidName.j0 k a0 true) else (if (a0.size : Int) > 12 then (catalog_ValidName.j0 k a0 true) else (if 0 < (a0.size : Int) then (if (bt a0 0) < 97 then (catalog_ValidName.j0 k a0 true) else (if (bt a0 0) > 122 then (catalog_ValidName.j0 k a0 true) else ((catalog_Reserved.f a0).bind fun t112 => (catalog_ValidName.j0 k a0 t112)))) else (none)))
theorem catalog_ValidName.mono_l : ∀ k, (∀ y0 y1, LeO (catalog_ValidName.j0 k y0 y1) (catalog_ValidName.j0 (k + 1) y0 y1)) ∧ (∀ y0 y1 y2, LeO (catalog_ValidName.l0 k y0 y1 y2) (catalog_ValidName.l0 (k + 1) y0 y1 y2))
 | 0 => ⟨fun _ _ r h => by simp [catalog_ValidName.j0] at h, fun _ _ _ r h => by simp [catalog_ValidName.l0] at h⟩
 | k + 1 => by
  obtain ⟨ih0, ih1⟩ := catalog_ValidName.mono_l k
  refine ⟨?_, ?_⟩
  ·intro y0 y1
   unfold catalog_ValidName.j0
   repeat' first
   | (with_reducible exact ih0 _ _)
   | (with_reducible exact ih1 _ _ _)
   | (with_reducible exact LeO.refl _)
   | (with_reducible exact LeO.none _)
   | (with_reducible refine LeO.ite ?_ ?_)
   | (with_reducible refine LeO.bind ?_ (fun _ => ?_))
   | exact ih0 _ _
   | exact ih1 _ _ _
   | exact LeO.none _
   | refine LeO.ite ?_ ?_
   | refine LeO.bind ?_ (fun _ => ?_)
  ·intro y0 y1 y2
   unfold catalog_ValidName.l0
   repeat' first
   | (with_reducible exact ih0 _ _)
   | (with_reducible exact ih1 _ _ _)
   | (with_reducible exact LeO.refl _)
   | (with_reducible exact LeO.none _)
   | (with_reducible refine LeO.ite ?_ ?_)
   | (with_reducible refine LeO.bind ?_ (fun _ => ?_))
   | exact ih0 _ _
   | exact ih1 _ _ _
   | exact LeO.none _
   | refine LeO.ite ?_ ?_
   | refine LeO.bind ?_ (fun _ => ?_)
theorem catalog_ValidName.mono : ∀ a0 k, LeO (catalog_ValidName.f k a0) (catalog_ValidName.f (k + 1) a0) := by
 intro a0 k
 obtain ⟨ih0, ih1⟩ := catalog_ValidName.mono_l k
 unfold catalog_ValidName.f
 repeat' first
   | (with_reducible exact ih0 _ _)
   | (with_reducible exact ih1 _ _ _)
   | (with_reducible exact LeO.refl _)
   | (with_reducible exact LeO.none _)
   | (with_reducible refine LeO.ite ?_ ?_)
   | (with_reducible refine LeO.bind ?_ (fun _ => ?_))
   | exact ih0 _ _
   | exact ih1 _ _ _
   | exact LeO.none _
   | refine LeO.ite ?_ ?_
   | refine LeO.bind ?_ (fun _ => ?_)
set_option maxHeartbeats 8000000 in
set_option maxRecDepth 100000 in
theorem catalog_ValidName.calls (k : Nat) (a0 : ByteArray) (r : Bool) (w : World) (h : catalog_ValidName.f k a0 = some r) :
  Calls Try.prog 55 #[.string a0] w fun e w' => e = .returned (.bool r) ∧ Drawn0 w w' := by
 have H : (if (a0.size : Int) = 0 then (catalog_ValidName.j0 k a0 true) else (if (a0.size : Int) > 12 then (catalog_ValidName.j0 k a0 true) else (if 0 < (a0.size : Int) then (if (bt a0 0) < 97 then (catalog_ValidName.j0 k a0 true) else (if (bt a0 0) > 122 then (catalog_ValidName.j0 k a0 true) else ((catalog_Reserved.f a0).bind fun t112 => (catalog_ValidName.j0 k a0 t112)))) else (none)))) = some r := h
 clear h
 have HC2 := Aside0.mk H
 clear H
 go_enter Try.func55, Try.ntmps55
 go_upto_region 1 with (fail)
 go_cut [26] (fun v26 wc => ∃ (kq : Nat) (x26_1 : Bool), v26 = .bool x26_1 ∧ Aside0 (catalog_ValidName.j0 kq a0 x26_1 = some r) ∧ Aside0 (kq ≤ k) ∧ Drawn0 w wc)
 case first =>
  have H := HC2.out
  clear HC2
  by_cases c3 : (a0.size : Int) = 0
  ·rw [if_pos c3] at H
   have c3b0 : ((a0.size : Int) == 0) = true := beq_iff_eq.mpr c3
   have c3b1 : ((a0.size : Int) != 0) = false := bne_eq_false_iff_eq.mpr c3
   clear c3
   (first | rw [c3b0] | (simp only [i64_w, i32_w]; rw [c3b0]) | skip)
   have H' := Aside0.mk H
   clear H
   go_wp2
   go_meet
   case rel => exact ⟨_, (true), (by first | rfl | (simp; done) | (simp [*]; done)), H', ⟨by first | omega | exact Nat.le_refl _⟩, by repeat (first | exact Drawn0.refl _ | apply Drawn0.step)⟩
  ·rw [if_neg c3] at H
   have c3b0 : ((a0.size : Int) == 0) = false := beq_eq_false_iff_ne.mpr c3
   have c3b1 : ((a0.size : Int) != 0) = true := bne_iff_ne.mpr c3
   (first | rw [c3b0] | (simp only [i64_w, i32_w]; rw [c3b0]) | skip)
   by_cases c4 : (a0.size : Int) > 12
   ·rw [if_pos c4] at H
    have c4b0 : decide (12 < (a0.size : Int)) = true := decide_eq_true c4
    have c4b1 : decide (12 < a0.size) = true := decide_eq_true (by omega)
    clear c4
    have H' := Aside0.mk H
    clear H
    go_wp2
    go_meet
    case rel => exact ⟨_, (true), (by first | rfl | (simp; done) | (simp [*]; done)), H', ⟨by first | omega | exact Nat.le_refl _⟩, by repeat (first | exact Drawn0.refl _ | apply Drawn0.step)⟩
   ·rw [if_neg c4] at H
    have c4b0 : decide (12 < (a0.size : Int)) = false := decide_eq_false c4
    have c4b1 : decide (12 < a0.size) = false := decide_eq_false (by omega)
    clear c4
    by_cases c5 : 0 < (a0.size : Int)
    ·rw [if_pos c5] at H
     have c5b0 : decide (0 < (a0.size : Int)) = true := decide_eq_true c5
     have c5b1 : decide (0 < a0.size) = true := decide_eq_true (by omega)
     clear c5
     by_cases c7 : (bt a0 0) < 97
     ·rw [if_pos c7] at H
      have c7b0 : decide ((bt a0 0) < 97) = true := decide_eq_true c7
      clear c7
      have H' := Aside0.mk H
      clear H
      have p6 : 0 ≤ (0 : Int) := (by omega)
      have q6 : 0 < a0.size := (by have : (0 : Int) < (a0.size : Int) := of_decide_eq_true (by first | (with_reducible assumption) | assumption); omega)
      have hx6 : ∀ h : 0 < a0.size, ((a0[0]'h).toNat : Int) = bt a0 0 := bt_at a0 0
      clear p6
      have qi6 : (0 < (a0.size : Int)) = True := eq_true (of_decide_eq_true (by first | (with_reducible assumption) | assumption))
      replace q6 := eq_true q6
      go_wp2
      go_meet
      case rel => exact ⟨_, (true), (by first | rfl | (simp; done) | (simp [*]; done)), H', ⟨by first | omega | exact Nat.le_refl _⟩, by repeat (first | exact Drawn0.refl _ | apply Drawn0.step)⟩
     ·rw [if_neg c7] at H
      have c7b0 : decide ((bt a0 0) < 97) = false := decide_eq_false c7
      clear c7
      by_cases c9 : (bt a0 0) > 122
      ·rw [if_pos c9] at H
       have c9b0 : decide (122 < (bt a0 0)) = true := decide_eq_true c9
       clear c9
       have H' := Aside0.mk H
       clear H
       have p6 : 0 ≤ (0 : Int) := (by omega)
       have q6 : 0 < a0.size := (by have : (0 : Int) < (a0.size : Int) := of_decide_eq_true (by first | (with_reducible assumption) | assumption); omega)
       have hx6 : ∀ h : 0 < a0.size, ((a0[0]'h).toNat : Int) = bt a0 0 := bt_at a0 0
       clear p6
       have qi6 : (0 < (a0.size : Int)) = True := eq_true (of_decide_eq_true (by first | (with_reducible assumption) | assumption))
       replace q6 := eq_true q6
       have p8 : 0 ≤ (0 : Int) := (by omega)
       have q8 : 0 < a0.size := (by have : (0 : Int) < (a0.size : Int) := of_decide_eq_true (by first | (with_reducible assumption) | assumption); omega)
       have hx8 : ∀ h : 0 < a0.size, ((a0[0]'h).toNat : Int) = bt a0 0 := bt_at a0 0
       clear p8
       have qi8 : (0 < (a0.size : Int)) = True := eq_true (of_decide_eq_true (by first | (with_reducible assumption) | assumption))
       replace q8 := eq_true q8
       go_wp2
       go_meet
       case rel => exact ⟨_, (true), (by first | rfl | (simp; done) | (simp [*]; done)), H', ⟨by first | omega | exact Nat.le_refl _⟩, by repeat (first | exact Drawn0.refl _ | apply Drawn0.step)⟩
      ·rw [if_neg c9] at H
       have c9b0 : decide (122 < (bt a0 0)) = false := decide_eq_false c9
       clear c9
       replace H := Option.bind_eq_some_iff.mp H
       obtain ⟨t112, A100, H⟩ := H
       replace H : (catalog_ValidName.j0 k a0 t112) = some r := H
       have A10 := Aside0.mk A100
       clear A100
       have H' := Aside0.mk H
       clear H
       have p6 : 0 ≤ (0 : Int) := (by omega)
       have q6 : 0 < a0.size := (by have : (0 : Int) < (a0.size : Int) := of_decide_eq_true (by first | (with_reducible assumption) | assumption); omega)
       have hx6 : ∀ h : 0 < a0.size, ((a0[0]'h).toNat : Int) = bt a0 0 := bt_at a0 0
       clear p6
       have qi6 : (0 < (a0.size : Int)) = True := eq_true (of_decide_eq_true (by first | (with_reducible assumption) | assumption))
       replace q6 := eq_true q6
       have p8 : 0 ≤ (0 : Int) := (by omega)
       have q8 : 0 < a0.size := (by have : (0 : Int) < (a0.size : Int) := of_decide_eq_true (by first | (with_reducible assumption) | assumption); omega)
       have hx8 : ∀ h : 0 < a0.size, ((a0[0]'h).toNat : Int) = bt a0 0 := bt_at a0 0
       clear p8
       have qi8 : (0 < (a0.size : Int)) = True := eq_true (of_decide_eq_true (by first | (with_reducible assumption) | assumption))
       replace q8 := eq_true q8
       go_wp2_with (first | (go_at_call 66; (with_reducible refine (catalog_Reserved.calls a0 t112 _ A10.out).mono ?_); rintro e w' ⟨rfl, ⟨nd, rfl⟩⟩))
       go_meet
       case rel => exact ⟨_, (t112), (by first | rfl | (simp; done) | (simp [*]; done)), H', ⟨by first | omega | exact Nat.le_refl _⟩, by repeat (first | exact Drawn0.refl _ | apply Drawn0.step)⟩
    ·rw [if_neg c5] at H
     exact absurd H (by simp)
 case rest =>
  clear HC2
  try clear p2
  try clear c3
  try clear c3b0
  try clear c3b1
  try clear c4
  try clear c4b0
  try clear c4b1
  try clear c5
  try clear c5b0
  try clear c5b1
  try clear p6
  try clear q6
  try clear hx6
  try clear qi6
  try clear c7
  try clear c7b0
  try clear p8
  try clear q8
  try clear hx8
  try clear qi8
  try clear c9
  try clear c9b0
  try clear p6
  try clear p8
  try clear q6
  try clear q8
  obtain ⟨kq, x26_1, rfl, HA, HJ1, ⟨mc1, rfl⟩⟩ := hcut
  cases kq with
  | zero => exact absurd HA.out (by simp [catalog_ValidName.j0])
  | succ kj1 =>
   have H := HA.out
   clear HA
   simp only [catalog_ValidName.j0] at H
   by_cases c11 : x26_1 = true
   ·subst c11
    have H1 : (some false) = some r := by rw [if_pos rfl] at H; exact H
    clear H
    have H := H1
    clear H1
    obtain rfl := Option.some.inj H
    go_wp2
    go_ret
    exact ⟨by first | rfl | (simp; done) | (simp [*]; done), by repeat (first | exact Drawn0.refl _ | apply Drawn0.step)⟩
   ·replace c11 := Bool.eq_false_iff.mpr c11
    subst c11
    have H1 : (catalog_ValidName.l0 kj1 a0 (a0.size : Int) 0) = some r := by rw [if_neg (show ¬ (false = true) by decide)] at H; exact H
    clear H
    have H := H1
    clear H1
    have H' := Aside0.mk H
    clear H
    go_wp2
    go_loopg [29] kj1 (fun kq v29 w' => ∃ (x29_2 : Int), v29 = .int .i64 x29_2 ∧ Aside0 (catalog_ValidName.l0 kq a0 (a0.size : Int) x29_2 = some r) ∧ Aside0 (kq ≤ kj1) ∧ Drawn0 w w')
    case atStart => exact ⟨(0), (by first | rfl | (simp; done) | (simp [*]; done)), H', ⟨Nat.le_refl _⟩, by repeat (first | exact Drawn0.refl _ | apply Drawn0.step)⟩
    case round =>
     clear H'
     try clear c1
     try clear p2
     try clear c3
     try clear c3b0
     try clear c3b1
     try clear c4
     try clear c4b0
     try clear c4b1
     try clear c5
     try clear c5b0
     try clear c5b1
     try clear p6
     try clear q6
     try clear hx6
     try clear qi6
     try clear c7
     try clear c7b0
     try clear p8
     try clear q8
     try clear hx8
     try clear qi8
     try clear c9
     try clear c9b0
     try clear c11
     try clear p2
     try clear p6
     try clear p8
     try clear q6
     try clear q8
     obtain ⟨x29_2, rfl, HA, HK2, ⟨m2, rfl⟩⟩ := hrel
     cases gk with
     | zero => exact absurd HA.out (by simp [catalog_ValidName.l0])
     | succ k2 =>
      have H := HA.out
      clear HA
      simp only [catalog_ValidName.l0] at H
      by_cases c12 : x29_2 < (a0.size : Int)
      ·rw [if_pos c12] at H
       have c12b0 : decide (x29_2 < (a0.size : Int)) = true := decide_eq_true c12
       clear c12
       by_cases c13 : 0 ≤ x29_2
       ·rw [if_pos c13] at H
        have c13b0 : decide (0 ≤ x29_2) = true := decide_eq_true c13
        clear c13
        by_cases c14 : x29_2 < (a0.size : Int)
        ·rw [if_pos c14] at H
         have c14b0 : decide (x29_2 < (a0.size : Int)) = true := decide_eq_true c14
         clear c14
         by_cases c16 : (bt a0 x29_2) < 97
         ·rw [if_pos c16] at H
          have c16b0 : decide ((bt a0 x29_2) < 97) = true := decide_eq_true c16
          clear c16
          by_cases c17 : (bt a0 x29_2) < 48
          ·rw [if_pos c17] at H
           have c17b0 : decide ((bt a0 x29_2) < 48) = true := decide_eq_true c17
           clear c17
           by_cases c18 : (bt a0 x29_2) = 95
           ·rw [if_pos c18] at H
            have c18b0 : ((bt a0 x29_2) == 95) = true := beq_iff_eq.mpr c18
            have c18b1 : ((bt a0 x29_2) != 95) = false := bne_eq_false_iff_eq.mpr c18
            clear c18
            have H' := Aside0.mk H
            clear H
            have p15 : 0 ≤ (x29_2 : Int) := of_decide_eq_true (by first | (with_reducible assumption) | assumption)
            have q15 : x29_2 < (a0.size : Int) := of_decide_eq_true (by first | (with_reducible assumption) | assumption)
            have hx15 := bt_at a0 x29_2
            replace p15 := eq_true p15
            replace q15 := eq_true q15
            go_wp2
            go_roundg k2
            case measure => have := HJ1.out; have := HK2.out; omega
            case rel => exact ⟨(wrap64 (x29_2 + 1)), (by first | rfl | (simp; done) | (simp [*]; done)), H', ⟨by have := HJ1.out; have := HK2.out; omega⟩, by repeat (first | exact Drawn0.refl _ | apply Drawn0.step)⟩
           ·rw [if_neg c18] at H
            have c18b0 : ((bt a0 x29_2) == 95) = false := beq_eq_false_iff_ne.mpr c18
            have c18b1 : ((bt a0 x29_2) != 95) = true := bne_iff_ne.mpr c18
            by_cases c19 : (bt a0 x29_2) = 45
            ·rw [if_pos c19] at H
             have c19b0 : ((bt a0 x29_2) == 45) = true := beq_iff_eq.mpr c19
             have c19b1 : ((bt a0 x29_2) != 45) = false := bne_eq_false_iff_eq.mpr c19
             clear c19
             have H' := Aside0.mk H
             clear H
             have p15 : 0 ≤ (x29_2 : Int) := of_decide_eq_true (by first | (with_reducible assumption) | assumption)
             have q15 : x29_2 < (a0.size : Int) := of_decide_eq_true (by first | (with_reducible assumption) | assumption)
             have hx15 := bt_at a0 x29_2
             replace p15 := eq_true p15
             replace q15 := eq_true q15
             go_wp2
             go_roundg k2
             case measure => have := HJ1.out; have := HK2.out; omega
             case rel => exact ⟨(wrap64 (x29_2 + 1)), (by first | rfl | (simp; done) | (simp [*]; done)), H', ⟨by have := HJ1.out; have := HK2.out; omega⟩, by repeat (first | exact Drawn0.refl _ | apply Drawn0.step)⟩
            ·rw [if_neg c19] at H
             have c19b0 : ((bt a0 x29_2) == 45) = false := beq_eq_false_iff_ne.mpr c19
             have c19b1 : ((bt a0 x29_2) != 45) = true := bne_iff_ne.mpr c19
             obtain rfl := Option.some.inj H
             have p15 : 0 ≤ (x29_2 : Int) := of_decide_eq_true (by first | (with_reducible assumption) | assumption)
             have q15 : x29_2 < (a0.size : Int) := of_decide_eq_true (by first | (with_reducible assumption) | assumption)
             have hx15 := bt_at a0 x29_2
             replace p15 := eq_true p15
             replace q15 := eq_true q15
             go_wp2
             go_ret
             exact ⟨by first | rfl | (simp; done) | (simp [*]; done), by repeat (first | exact Drawn0.refl _ | apply Drawn0.step)⟩
          ·rw [if_neg c17] at H
           have c17b0 : decide ((bt a0 x29_2) < 48) = false := decide_eq_false c17
           clear c17
           by_cases c20 : (bt a0 x29_2) > 57
           ·rw [if_pos c20] at H
            have c20b0 : decide (57 < (bt a0 x29_2)) = true := decide_eq_true c20
            clear c20
            by_cases c21 : (bt a0 x29_2) = 95
            ·rw [if_pos c21] at H
             have c21b0 : ((bt a0 x29_2) == 95) = true := beq_iff_eq.mpr c21
             have c21b1 : ((bt a0 x29_2) != 95) = false := bne_eq_false_iff_eq.mpr c21
             clear c21
             have H' := Aside0.mk H
             clear H
             have p15 : 0 ≤ (x29_2 : Int) := of_decide_eq_true (by first | (with_reducible assumption) | assumption)
             have q15 : x29_2 < (a0.size : Int) := of_decide_eq_true (by first | (with_reducible assumption) | assumption)
             have hx15 := bt_at a0 x29_2
             replace p15 := eq_true p15
             replace q15 := eq_true q15
             go_wp2
             go_roundg k2
             case measure => have := HJ1.out; have := HK2.out; omega
             case rel => exact ⟨(wrap64 (x29_2 + 1)), (by first | rfl | (simp; done) | (simp [*]; done)), H', ⟨by have := HJ1.out; have := HK2.out; omega⟩, by repeat (first | exact Drawn0.refl _ | apply Drawn0.step)⟩
            ·rw [if_neg c21] at H
             have c21b0 : ((bt a0 x29_2) == 95) = false := beq_eq_false_iff_ne.mpr c21
             have c21b1 : ((bt a0 x29_2) != 95) = true := bne_iff_ne.mpr c21
             by_cases c22 : (bt a0 x29_2) = 45
             ·rw [if_pos c22] at H
              have c22b0 : ((bt a0 x29_2) == 45) = true := beq_iff_eq.mpr c22
              have c22b1 : ((bt a0 x29_2) != 45) = false := bne_eq_false_iff_eq.mpr c22
              clear c22
              have H' := Aside0.mk H
              clear H
              have p15 : 0 ≤ (x29_2 : Int) := of_decide_eq_true (by first | (with_reducible assumption) | assumption)
              have q15 : x29_2 < (a0.size : Int) := of_decide_eq_true (by first | (with_reducible assumption) | assumption)
              have hx15 := bt_at a0 x29_2
              replace p15 := eq_true p15
              replace q15 := eq_true q15
              go_wp2
              go_roundg k2
              case measure => have := HJ1.out; have := HK2.out; omega
              case rel => exact ⟨(wrap64 (x29_2 + 1)), (by first | rfl | (simp; done) | (simp [*]; done)), H', ⟨by have := HJ1.out; have := HK2.out; omega⟩, by repeat (first | exact Drawn0.refl _ | apply Drawn0.step)⟩
             ·rw [if_neg c22] at H
              have c22b0 : ((bt a0 x29_2) == 45) = false := beq_eq_false_iff_ne.mpr c22
              have c22b1 : ((bt a0 x29_2) != 45) = true := bne_iff_ne.mpr c22
              obtain rfl := Option.some.inj H
              have p15 : 0 ≤ (x29_2 : Int) := of_decide_eq_true (by first | (with_reducible assumption) | assumption)
              have q15 : x29_2 < (a0.size : Int) := of_decide_eq_true (by first | (with_reducible assumption) | assumption)
              have hx15 := bt_at a0 x29_2
              replace p15 := eq_true p15
              replace q15 := eq_true q15
              go_wp2
              go_ret
              exact ⟨by first | rfl | (simp; done) | (simp [*]; done), by repeat (first | exact Drawn0.refl _ | apply Drawn0.step)⟩
           ·rw [if_neg c20] at H
            have c20b0 : decide (57 < (bt a0 x29_2)) = false := decide_eq_false c20
            clear c20
            have H' := Aside0.mk H
            clear H
            have p15 : 0 ≤ (x29_2 : Int) := of_decide_eq_true (by first | (with_reducible assumption) | assumption)
            have q15 : x29_2 < (a0.size : Int) := of_decide_eq_true (by first | (with_reducible assumption) | assumption)
            have hx15 := bt_at a0 x29_2
            replace p15 := eq_true p15
            replace q15 := eq_true q15
            go_wp2
            go_roundg k2
            case measure => have := HJ1.out; have := HK2.out; omega
            case rel => exact ⟨(wrap64 (x29_2 + 1)), (by first | rfl | (simp; done) | (simp [*]; done)), H', ⟨by have := HJ1.out; have := HK2.out; omega⟩, by repeat (first | exact Drawn0.refl _ | apply Drawn0.step)⟩
         ·rw [if_neg c16] at H
          have c16b0 : decide ((bt a0 x29_2) < 97) = false := decide_eq_false c16
          clear c16
          by_cases c23 : (bt a0 x29_2) > 122
          ·rw [if_pos c23] at H
           have c23b0 : decide (122 < (bt a0 x29_2)) = true := decide_eq_true c23
           clear c23
           by_cases c24 : (bt a0 x29_2) < 48
           ·rw [if_pos c24] at H
            have c24b0 : decide ((bt a0 x29_2) < 48) = true := decide_eq_true c24
            clear c24
            by_cases c25 : (bt a0 x29_2) = 95
            ·rw [if_pos c25] at H
             have c25b0 : ((bt a0 x29_2) == 95) = true := beq_iff_eq.mpr c25
             have c25b1 : ((bt a0 x29_2) != 95) = false := bne_eq_false_iff_eq.mpr c25
             clear c25
             have H' := Aside0.mk H
             clear H
             have p15 : 0 ≤ (x29_2 : Int) := of_decide_eq_true (by first | (with_reducible assumption) | assumption)
             have q15 : x29_2 < (a0.size : Int) := of_decide_eq_true (by first | (with_reducible assumption) | assumption)
             have hx15 := bt_at a0 x29_2
             replace p15 := eq_true p15
             replace q15 := eq_true q15
             go_wp2
             go_roundg k2
             case measure => have := HJ1.out; have := HK2.out; omega
             case rel => exact ⟨(wrap64 (x29_2 + 1)), (by first | rfl | (simp; done) | (simp [*]; done)), H', ⟨by have := HJ1.out; have := HK2.out; omega⟩, by repeat (first | exact Drawn0.refl _ | apply Drawn0.step)⟩
            ·rw [if_neg c25] at H
             have c25b0 : ((bt a0 x29_2) == 95) = false := beq_eq_false_iff_ne.mpr c25
             have c25b1 : ((bt a0 x29_2) != 95) = true := bne_iff_ne.mpr c25
             by_cases c26 : (bt a0 x29_2) = 45
             ·rw [if_pos c26] at H
              have c26b0 : ((bt a0 x29_2) == 45) = true := beq_iff_eq.mpr c26
              have c26b1 : ((bt a0 x29_2) != 45) = false := bne_eq_false_iff_eq.mpr c26
              clear c26
              have H' := Aside0.mk H
              clear H
              have p15 : 0 ≤ (x29_2 : Int) := of_decide_eq_true (by first | (with_reducible assumption) | assumption)
              have q15 : x29_2 < (a0.size : Int) := of_decide_eq_true (by first | (with_reducible assumption) | assumption)
              have hx15 := bt_at a0 x29_2
              replace p15 := eq_true p15
              replace q15 := eq_true q15
              go_wp2
              go_roundg k2
              case measure => have := HJ1.out; have := HK2.out; omega
              case rel => exact ⟨(wrap64 (x29_2 + 1)), (by first | rfl | (simp; done) | (simp [*]; done)), H', ⟨by have := HJ1.out; have := HK2.out; omega⟩, by repeat (first | exact Drawn0.refl _ | apply Drawn0.step)⟩
             ·rw [if_neg c26] at H
              have c26b0 : ((bt a0 x29_2) == 45) = false := beq_eq_false_iff_ne.mpr c26
              have c26b1 : ((bt a0 x29_2) != 45) = true := bne_iff_ne.mpr c26
              obtain rfl := Option.some.inj H
              have p15 : 0 ≤ (x29_2 : Int) := of_decide_eq_true (by first | (with_reducible assumption) | assumption)
              have q15 : x29_2 < (a0.size : Int) := of_decide_eq_true (by first | (with_reducible assumption) | assumption)
              have hx15 := bt_at a0 x29_2
              replace p15 := eq_true p15
              replace q15 := eq_true q15
              go_wp2
              go_ret
              exact ⟨by first | rfl | (simp; done) | (simp [*]; done), by repeat (first | exact Drawn0.refl _ | apply Drawn0.step)⟩
           ·rw [if_neg c24] at H
            have c24b0 : decide ((bt a0 x29_2) < 48) = false := decide_eq_false c24
            clear c24
            by_cases c27 : (bt a0 x29_2) > 57
            ·rw [if_pos c27] at H
             have c27b0 : decide (57 < (bt a0 x29_2)) = true := decide_eq_true c27
             clear c27
             by_cases c28 : (bt a0 x29_2) = 95
             ·rw [if_pos c28] at H
              have c28b0 : ((bt a0 x29_2) == 95) = true := beq_iff_eq.mpr c28
              have c28b1 : ((bt a0 x29_2) != 95) = false := bne_eq_false_iff_eq.mpr c28
              clear c28
              have H' := Aside0.mk H
              clear H
              have p15 : 0 ≤ (x29_2 : Int) := of_decide_eq_true (by first | (with_reducible assumption) | assumption)
              have q15 : x29_2 < (a0.size : Int) := of_decide_eq_true (by first | (with_reducible assumption) | assumption)
              have hx15 := bt_at a0 x29_2
              replace p15 := eq_true p15
              replace q15 := eq_true q15
              go_wp2
              go_roundg k2
              case measure => have := HJ1.out; have := HK2.out; omega
              case rel => exact ⟨(wrap64 (x29_2 + 1)), (by first | rfl | (simp; done) | (simp [*]; done)), H', ⟨by have := HJ1.out; have := HK2.out; omega⟩, by repeat (first | exact Drawn0.refl _ | apply Drawn0.step)⟩
             ·rw [if_neg c28] at H
              have c28b0 : ((bt a0 x29_2) == 95) = false := beq_eq_false_iff_ne.mpr c28
              have c28b1 : ((bt a0 x29_2) != 95) = true := bne_iff_ne.mpr c28
              by_cases c29 : (bt a0 x29_2) = 45
              ·rw [if_pos c29] at H
               have c29b0 : ((bt a0 x29_2) == 45) = true := beq_iff_eq.mpr c29
               have c29b1 : ((bt a0 x29_2) != 45) = false := bne_eq_false_iff_eq.mpr c29
               clear c29
               have H' := Aside0.mk H
               clear H
               have p15 : 0 ≤ (x29_2 : Int) := of_decide_eq_true (by first | (with_reducible assumption) | assumption)
               have q15 : x29_2 < (a0.size : Int) := of_decide_eq_true (by first | (with_reducible assumption) | assumption)
               have hx15 := bt_at a0 x29_2
               replace p15 := eq_true p15
               replace q15 := eq_true q15
               go_wp2
               go_roundg k2
               case measure => have := HJ1.out; have := HK2.out; omega
               case rel => exact ⟨(wrap64 (x29_2 + 1)), (by first | rfl | (simp; done) | (simp [*]; done)), H', ⟨by have := HJ1.out; have := HK2.out; omega⟩, by repeat (first | exact Drawn0.refl _ | apply Drawn0.step)⟩
              ·rw [if_neg c29] at H
               have c29b0 : ((bt a0 x29_2) == 45) = false := beq_eq_false_iff_ne.mpr c29
               have c29b1 : ((bt a0 x29_2) != 45) = true := bne_iff_ne.mpr c29
               obtain rfl := Option.some.inj H
               have p15 : 0 ≤ (x29_2 : Int) := of_decide_eq_true (by first | (with_reducible assumption) | assumption)
               have q15 : x29_2 < (a0.size : Int) := of_decide_eq_true (by first | (with_reducible assumption) | assumption)
               have hx15 := bt_at a0 x29_2
               replace p15 := eq_true p15
               replace q15 := eq_true q15
               go_wp2
               go_ret
               exact ⟨by first | rfl | (simp; done) | (simp [*]; done), by repeat (first | exact Drawn0.refl _ | apply Drawn0.step)⟩
            ·rw [if_neg c27] at H
             have c27b0 : decide (57 < (bt a0 x29_2)) = false := decide_eq_false c27
             clear c27
             have H' := Aside0.mk H
             clear H
             have p15 : 0 ≤ (x29_2 : Int) := of_decide_eq_true (by first | (with_reducible assumption) | assumption)
             have q15 : x29_2 < (a0.size : Int) := of_decide_eq_true (by first | (with_reducible assumption) | assumption)
             have hx15 := bt_at a0 x29_2
             replace p15 := eq_true p15
             replace q15 := eq_true q15
             go_wp2
             go_roundg k2
             case measure => have := HJ1.out; have := HK2.out; omega
             case rel => exact ⟨(wrap64 (x29_2 + 1)), (by first | rfl | (simp; done) | (simp [*]; done)), H', ⟨by have := HJ1.out; have := HK2.out; omega⟩, by repeat (first | exact Drawn0.refl _ | apply Drawn0.step)⟩
          ·rw [if_neg c23] at H
           have c23b0 : decide (122 < (bt a0 x29_2)) = false := decide_eq_false c23
           clear c23
           have H' := Aside0.mk H
           clear H
           have p15 : 0 ≤ (x29_2 : Int) := of_decide_eq_true (by first | (with_reducible assumption) | assumption)
           have q15 : x29_2 < (a0.size : Int) := of_decide_eq_true (by first | (with_reducible assumption) | assumption)
           have hx15 := bt_at a0 x29_2
           replace p15 := eq_true p15
           replace q15 := eq_true q15
           go_wp2
           go_roundg k2
           case measure => have := HJ1.out; have := HK2.out; omega
           case rel => exact ⟨(wrap64 (x29_2 + 1)), (by first | rfl | (simp; done) | (simp [*]; done)), H', ⟨by have := HJ1.out; have := HK2.out; omega⟩, by repeat (first | exact Drawn0.refl _ | apply Drawn0.step)⟩
        ·rw [if_neg c14] at H
         exact absurd H (by simp)
       ·rw [if_neg c13] at H
        exact absurd H (by simp)
      ·rw [if_neg c12] at H
       have c12b0 : decide (x29_2 < (a0.size : Int)) = false := decide_eq_false c12
       clear c12
       obtain rfl := Option.some.inj H
       go_wp2
       go_ret
       exact ⟨by first | rfl | (simp; done) | (simp [*]; done), by repeat (first | exact Drawn0.refl _ | apply Drawn0.step)⟩

/-! ### amount_Shaped: function 61 -/
def amount_Shaped.f (a0_0 : ByteArray) (a0_1 : Int) (a0_2 : Int) (a0_3 : Int) : Option (Bool) := if a0_1 = 1 then (some (a0_2 == 1)) else (if a0_1 = 2 then (if a0_2 ≥ 1 then (some (decide (a0_2 ≤ 8))) else (some false)) else (some false))
set_option maxHeartbeats 8000000 in
set_option maxRecDepth 100000 in
theorem amount_Shaped.calls (a0_0 : ByteArray) (a0_1 : Int) (a0_2 : Int) (a0_3 : Int) (r : Bool) (w : World) (h : amount_Shaped.f a0_0 a0_1 a0_2 a0_3 = some r) :
  Calls Try.prog 61 #[.agg #[.string a0_0, .int .i64 a0_1, .int .i64 a0_2, .int .i64 a0_3]] w fun e w' => e = .returned (.bool r) ∧ Below w.heap.size w w' := by
 have hu59 := Try.underlying59
 have HB := am (Below.refl w.heap.size w)
 have H : (if a0_1 = 1 then (some (a0_2 == 1)) else (if a0_1 = 2 then (if a0_2 ≥ 1 then (some (decide (a0_2 ≤ 8))) else (some false)) else (some false))) = some r := h
 clear h
 by_cases c2 : a0_1 = 1
 ·rw [if_pos c2] at H
  have c2b0 : (a0_1 == 1) = true := beq_iff_eq.mpr c2
  have c2b1 : (a0_1 != 1) = false := bne_eq_false_iff_eq.mpr c2
  clear c2
  obtain rfl := Option.some.inj H
  go_enter Try.func61, Try.ntmps61
  go_wp2_with (first | ((with_reducible refine gate_dst (N := 1) rfl ?_); refine box_event ?hg (N := 1) ?hd (cs := #[.string a0_0, .int .i64 a0_1, .int .i64 a0_2, .int .i64 a0_3]) (t := 59) ?hr ?_; (case hd => rfl); (case hg => rfl); (case hr => first | (go_simp; done) | (go_simp; rfl)); intro gb113 hg w3 hbox hb; have n0_ := am (below_step (zL HB.out) hb); have n1_ := am (hbox); have n2_ := am (zS hg HB.out); have n3_ := am (zS hg HB.out); clear HB; have HB := n0_; have BK113 := n1_; have GW113 := n2_; have GE113 := n3_; clear n0_ n1_ n2_ n3_; clear hb hbox hg; obtain ⟨hcz4_0, hcz4_1, hcz4_2, hcz4_3, hfz4_0, hfz4_1, hfz4_2, hfz4_3⟩ := b4 BK113.out))
  go_ret
  exact ⟨by first | rfl | (simp [errW_none, errW_some] <;> rfl) | (simp [*, errW_none, errW_some] <;> rfl), by repeat (first | (with_reducible first | exact HB.out | apply ba | apply bd | apply be | refine below_set ?_ GE113.out) | exact HB.out)⟩
 ·rw [if_neg c2] at H
  have c2b0 : (a0_1 == 1) = false := beq_eq_false_iff_ne.mpr c2
  have c2b1 : (a0_1 != 1) = true := bne_iff_ne.mpr c2
  by_cases c5 : a0_1 = 2
  ·rw [if_pos c5] at H
   have c5b0 : (a0_1 == 2) = true := beq_iff_eq.mpr c5
   have c5b1 : (a0_1 != 2) = false := bne_eq_false_iff_eq.mpr c5
   clear c5
   by_cases c6 : a0_2 ≥ 1
   ·rw [if_pos c6] at H
    have c6b0 : decide (1 ≤ a0_2) = true := decide_eq_true c6
    clear c6
    obtain rfl := Option.some.inj H
    go_enter Try.func61, Try.ntmps61
    go_wp2_with (first | ((with_reducible refine gate_dst (N := 1) rfl ?_); refine box_event ?hg (N := 1) ?hd (cs := #[.string a0_0, .int .i64 a0_1, .int .i64 a0_2, .int .i64 a0_3]) (t := 59) ?hr ?_; (case hd => rfl); (case hg => rfl); (case hr => first | (go_simp; done) | (go_simp; rfl)); intro gb113 hg w7 hbox hb; have n0_ := am (below_step (zL HB.out) hb); have n1_ := am (hbox); have n2_ := am (zS hg HB.out); have n3_ := am (zS hg HB.out); clear HB; have HB := n0_; have BK113 := n1_; have GW113 := n2_; have GE113 := n3_; clear n0_ n1_ n2_ n3_; clear hb hbox hg; obtain ⟨hcz8_0, hcz8_1, hcz8_2, hcz8_3, hfz8_0, hfz8_1, hfz8_2, hfz8_3⟩ := b4 BK113.out))
    go_ret
    exact ⟨by first | rfl | (simp [errW_none, errW_some] <;> rfl) | (simp [*, errW_none, errW_some] <;> rfl), by repeat (first | (with_reducible first | exact HB.out | apply ba | apply bd | apply be | refine below_set ?_ GE113.out) | exact HB.out)⟩
   ·rw [if_neg c6] at H
    have c6b0 : decide (1 ≤ a0_2) = false := decide_eq_false c6
    clear c6
    obtain rfl := Option.some.inj H
    go_enter Try.func61, Try.ntmps61
    go_wp2_with (first | ((with_reducible refine gate_dst (N := 1) rfl ?_); refine box_event ?hg (N := 1) ?hd (cs := #[.string a0_0, .int .i64 a0_1, .int .i64 a0_2, .int .i64 a0_3]) (t := 59) ?hr ?_; (case hd => rfl); (case hg => rfl); (case hr => first | (go_simp; done) | (go_simp; rfl)); intro gb113 hg w9 hbox hb; have n0_ := am (below_step (zL HB.out) hb); have n1_ := am (hbox); have n2_ := am (zS hg HB.out); have n3_ := am (zS hg HB.out); clear HB; have HB := n0_; have BK113 := n1_; have GW113 := n2_; have GE113 := n3_; clear n0_ n1_ n2_ n3_; clear hb hbox hg; obtain ⟨hcz10_0, hcz10_1, hcz10_2, hcz10_3, hfz10_0, hfz10_1, hfz10_2, hfz10_3⟩ := b4 BK113.out))
    go_ret
    exact ⟨by first | rfl | (simp [errW_none, errW_some] <;> rfl) | (simp [*, errW_none, errW_some] <;> rfl), by repeat (first | (with_reducible first | exact HB.out | apply ba | apply bd | apply be | refine below_set ?_ GE113.out) | exact HB.out)⟩
  ·rw [if_neg c5] at H
   have c5b0 : (a0_1 == 2) = false := beq_eq_false_iff_ne.mpr c5
   have c5b1 : (a0_1 != 2) = true := bne_iff_ne.mpr c5
   obtain rfl := Option.some.inj H
   go_enter Try.func61, Try.ntmps61
   go_wp2_with (first | ((with_reducible refine gate_dst (N := 1) rfl ?_); refine box_event ?hg (N := 1) ?hd (cs := #[.string a0_0, .int .i64 a0_1, .int .i64 a0_2, .int .i64 a0_3]) (t := 59) ?hr ?_; (case hd => rfl); (case hg => rfl); (case hr => first | (go_simp; done) | (go_simp; rfl)); intro gb113 hg w11 hbox hb; have n0_ := am (below_step (zL HB.out) hb); have n1_ := am (hbox); have n2_ := am (zS hg HB.out); have n3_ := am (zS hg HB.out); clear HB; have HB := n0_; have BK113 := n1_; have GW113 := n2_; have GE113 := n3_; clear n0_ n1_ n2_ n3_; clear hb hbox hg; obtain ⟨hcz12_0, hcz12_1, hcz12_2, hcz12_3, hfz12_0, hfz12_1, hfz12_2, hfz12_3⟩ := b4 BK113.out))
   go_ret
   exact ⟨by first | rfl | (simp [errW_none, errW_some] <;> rfl) | (simp [*, errW_none, errW_some] <;> rfl), by repeat (first | (with_reducible first | exact HB.out | apply ba | apply bd | apply be | refine below_set ?_ GE113.out) | exact HB.out)⟩

/-! ### mode_Valid: function 62 -/
def mode_Valid.f (a0 : Int) : Option (Bool) := if a0 ≥ 1 then (some (decide (a0 ≤ 5))) else (some false)
set_option maxHeartbeats 8000000 in
set_option maxRecDepth 100000 in
theorem mode_Valid.calls (a0 : Int) (r : Bool) (w : World) (h : mode_Valid.f a0 = some r) :
  Calls Try.prog 62 #[.int .i64 a0] w fun e w' => e = .returned (.bool r) ∧ Drawn0 w w' := by
 have H : (if a0 ≥ 1 then (some (decide (a0 ≤ 5))) else (some false)) = some r := h
 clear h
 by_cases c2 : a0 ≥ 1
 ·rw [if_pos c2] at H
  have c2b0 : decide (1 ≤ a0) = true := decide_eq_true c2
  clear c2
  obtain rfl := Option.some.inj H
  go_enter Try.func62, Try.ntmps62
  go_wp2
  go_ret
  exact ⟨by first | rfl | (simp; done) | (simp [*]; done), by repeat (first | exact Drawn0.refl _ | apply Drawn0.step)⟩
 ·rw [if_neg c2] at H
  have c2b0 : decide (1 ≤ a0) = false := decide_eq_false c2
  clear c2
  obtain rfl := Option.some.inj H
  go_enter Try.func62, Try.ntmps62
  go_wp2
  go_ret
  exact ⟨by first | rfl | (simp; done) | (simp [*]; done), by repeat (first | exact Drawn0.refl _ | apply Drawn0.step)⟩

/-! ### amount_Fits: function 50 -/
def amount_Fits.f (a0_0 : ByteArray) (a0_1 : Int) (a0_2 : Int) (a0_3 : Int) (a1_0 : Int) (a1_1 : Int) : Option (Bool) := (amount_Shaped.f a0_0 a0_1 a0_2 a0_3).bind fun t116 => (if t116 = true then (if a0_1 = 1 then ((mode_Valid.f a1_0).bind fun t117 => (if t117 = true then (some (a1_1 == 0)) else (some false))) else (if a1_0 = 0 then (if a1_1 ≥ 1 then (some (decide (a1_1 ≤ a0_2))) else (some false)) else (some false))) else (some false))
set_option maxHeartbeats 8000000 in
set_option maxRecDepth 100000 in
theorem amount_Fits.calls (a0_0 : ByteArray) (a0_1 : Int) (a0_2 : Int) (a0_3 : Int) (a1_0 : Int) (a1_1 : Int) (r : Bool) (w : World) (h : amount_Fits.f a0_0 a0_1 a0_2 a0_3 a1_0 a1_1 = some r) :
  Calls Try.prog 50 #[.agg #[.string a0_0, .int .i64 a0_1, .int .i64 a0_2, .int .i64 a0_3], .agg #[.int .i64 a1_0, .int .i64 a1_1]] w fun e w' => e = .returned (.bool r) ∧ Below w.heap.size w w' := by
 have hu59 := Try.underlying59
 have hu23 := Try.underlying23
 have HB := am (Below.refl w.heap.size w)
 have H : ((amount_Shaped.f a0_0 a0_1 a0_2 a0_3).bind fun t116 => (if t116 = true then (if a0_1 = 1 then ((mode_Valid.f a1_0).bind fun t117 => (if t117 = true then (some (a1_1 == 0)) else (some false))) else (if a1_0 = 0 then (if a1_1 ≥ 1 then (some (decide (a1_1 ≤ a0_2))) else (some false)) else (some false))) else (some false))) = some r := h
 clear h
 replace H := Option.bind_eq_some_iff.mp H
 obtain ⟨t116, A30, H⟩ := H
 replace H : (if t116 = true then (if a0_1 = 1 then ((mode_Valid.f a1_0).bind fun t117 => (if t117 = true then (some (a1_1 == 0)) else (some false))) else (if a1_0 = 0 then (if a1_1 ≥ 1 then (some (decide (a1_1 ≤ a0_2))) else (some false)) else (some false))) else (some false)) = some r := H
 have A3 := Aside0.mk A30
 clear A30
 by_cases c4 : t116 = true
 ·subst c4
  have H1 : (if a0_1 = 1 then ((mode_Valid.f a1_0).bind fun t117 => (if t117 = true then (some (a1_1 == 0)) else (some false))) else (if a1_0 = 0 then (if a1_1 ≥ 1 then (some (decide (a1_1 ≤ a0_2))) else (some false)) else (some false))) = some r := by rw [if_pos rfl] at H; exact H
  clear H
  have H := H1
  clear H1
  by_cases c5 : a0_1 = 1
  ·rw [if_pos c5] at H
   have c5b0 : (a0_1 == 1) = true := beq_iff_eq.mpr c5
   have c5b1 : (a0_1 != 1) = false := bne_eq_false_iff_eq.mpr c5
   clear c5
   replace H := Option.bind_eq_some_iff.mp H
   obtain ⟨t117, A60, H⟩ := H
   replace H : (if t117 = true then (some (a1_1 == 0)) else (some false)) = some r := H
   have A6 := Aside0.mk A60
   clear A60
   by_cases c7 : t117 = true
   ·subst c7
    have H1 : (some (a1_1 == 0)) = some r := by rw [if_pos rfl] at H; exact H
    clear H
    have H := H1
    clear H1
    obtain rfl := Option.some.inj H
    go_enter Try.func50, Try.ntmps50
    go_wp2_with (first | ((with_reducible refine gate_dst (N := 2) rfl ?_); refine box_event ?hg (N := 2) ?hd (cs := #[.string a0_0, .int .i64 a0_1, .int .i64 a0_2, .int .i64 a0_3]) (t := 59) ?hr ?_; (case hd => rfl); (case hg => rfl); (case hr => first | (go_simp; done) | (go_simp; rfl)); intro gb114 hg w8 hbox hb; have n0_ := am (below_step (zL HB.out) hb); have n1_ := am (hbox); have n2_ := am (zS hg HB.out); have n3_ := am (zS hg HB.out); clear HB; have HB := n0_; have BK114 := n1_; have GW114 := n2_; have GE114 := n3_; clear n0_ n1_ n2_ n3_; clear hb hbox hg) | ((with_reducible refine gate_dst (N := 3) rfl ?_); refine box_event ?hg (N := 3) ?hd (cs := #[.int .i64 a1_0, .int .i64 a1_1]) (t := 23) ?hr ?_; (case hd => rfl); (case hg => rfl); (case hr => first | (go_simp; done) | (go_simp; rfl)); intro gb115 hg w9 hbox hb; have n0_ := am (blk_below (zB BK114.out) hb); have n1_ := am (below_step (zL HB.out) hb); have n2_ := am (hbox); have n3_ := am (zS hg HB.out); have n4_ := am (zS hg HB.out); have n5_ := am (zN hg BK114.out); have n6_ := am (zM hg BK114.out); clear BK114 HB; have BK114 := n0_; have HB := n1_; have BK115 := n2_; have GW115 := n3_; have GE115 := n4_; have NB114_115 := n5_; have NB115_114 := n6_; clear n0_ n1_ n2_ n3_ n4_ n5_ n6_; clear hb hbox hg; have hnb10 := NB114_115.out; have hnc10 := NB115_114.out; obtain ⟨hcz11_0, hcz11_1, hcz11_2, hcz11_3, hfz11_0, hfz11_1, hfz11_2, hfz11_3⟩ := b4 BK114.out) | ((with_reducible refine gate_callee (f := 61) rfl ?_); refine goesL_ (some 6) rfl rfl Try.func61 (by kernel_rfl) rfl #[.agg #[.string a0_0, .int .i64 a0_1, .int .i64 a0_2, .int .i64 a0_3]] rfl mp1 ?_; (with_reducible refine (amount_Shaped.calls a0_0 a0_1 a0_2 a0_3 true _ A3.out).mono ?_); rintro e w12 ⟨rfl, hb⟩; refine ⟨_, rfl, ?_⟩; have n0_ := am (blk_below (zB BK114.out) hb); have n1_ := am (blk_below (zB BK115.out) hb); have n2_ := am (below_step (zL HB.out) hb); clear BK114 BK115 HB; have BK114 := n0_; have BK115 := n1_; have HB := n2_; clear n0_ n1_ n2_; (try clear hb); (try clear hb2); (try clear hk); (try clear hi); obtain ⟨hcz13_0, hcz13_1, hcz13_2, hcz13_3, hfz13_0, hfz13_1, hfz13_2, hfz13_3⟩ := b4 BK114.out; obtain ⟨hcz14_0, hcz14_1, hfz14_0, hfz14_1⟩ := b2 BK115.out) | ((with_reducible refine gate_callee (f := 62) rfl ?_); refine goesL_ (some 13) rfl rfl Try.func62 (by kernel_rfl) rfl #[.int .i64 a1_0] rfl mp1 ?_; (with_reducible refine (mode_Valid.calls a1_0 true _ A6.out).mono ?_); rintro e w' ⟨rfl, ⟨nd, rfl⟩⟩; refine ⟨_, rfl, ?_⟩))
    go_ret
    exact ⟨by first | rfl | (simp [errW_none, errW_some] <;> rfl) | (simp [*, errW_none, errW_some] <;> rfl), by repeat (first | (with_reducible first | exact HB.out | apply ba | apply bd | apply be | refine below_set ?_ GE114.out | refine below_set ?_ GE115.out) | exact HB.out)⟩
   ·replace c7 := Bool.eq_false_iff.mpr c7
    subst c7
    have H1 : (some false) = some r := by rw [if_neg (show ¬ (false = true) by decide)] at H; exact H
    clear H
    have H := H1
    clear H1
    obtain rfl := Option.some.inj H
    go_enter Try.func50, Try.ntmps50
    go_wp2_with (first | ((with_reducible refine gate_dst (N := 2) rfl ?_); refine box_event ?hg (N := 2) ?hd (cs := #[.string a0_0, .int .i64 a0_1, .int .i64 a0_2, .int .i64 a0_3]) (t := 59) ?hr ?_; (case hd => rfl); (case hg => rfl); (case hr => first | (go_simp; done) | (go_simp; rfl)); intro gb114 hg w15 hbox hb; have n0_ := am (below_step (zL HB.out) hb); have n1_ := am (hbox); have n2_ := am (zS hg HB.out); have n3_ := am (zS hg HB.out); clear HB; have HB := n0_; have BK114 := n1_; have GW114 := n2_; have GE114 := n3_; clear n0_ n1_ n2_ n3_; clear hb hbox hg) | ((with_reducible refine gate_dst (N := 3) rfl ?_); refine box_event ?hg (N := 3) ?hd (cs := #[.int .i64 a1_0, .int .i64 a1_1]) (t := 23) ?hr ?_; (case hd => rfl); (case hg => rfl); (case hr => first | (go_simp; done) | (go_simp; rfl)); intro gb115 hg w16 hbox hb; have n0_ := am (blk_below (zB BK114.out) hb); have n1_ := am (below_step (zL HB.out) hb); have n2_ := am (hbox); have n3_ := am (zS hg HB.out); have n4_ := am (zS hg HB.out); have n5_ := am (zN hg BK114.out); have n6_ := am (zM hg BK114.out); clear BK114 HB; have BK114 := n0_; have HB := n1_; have BK115 := n2_; have GW115 := n3_; have GE115 := n4_; have NB114_115 := n5_; have NB115_114 := n6_; clear n0_ n1_ n2_ n3_ n4_ n5_ n6_; clear hb hbox hg; have hnb17 := NB114_115.out; have hnc17 := NB115_114.out; obtain ⟨hcz18_0, hcz18_1, hcz18_2, hcz18_3, hfz18_0, hfz18_1, hfz18_2, hfz18_3⟩ := b4 BK114.out) | ((with_reducible refine gate_callee (f := 61) rfl ?_); refine goesL_ (some 6) rfl rfl Try.func61 (by kernel_rfl) rfl #[.agg #[.string a0_0, .int .i64 a0_1, .int .i64 a0_2, .int .i64 a0_3]] rfl mp1 ?_; (with_reducible refine (amount_Shaped.calls a0_0 a0_1 a0_2 a0_3 true _ A3.out).mono ?_); rintro e w19 ⟨rfl, hb⟩; refine ⟨_, rfl, ?_⟩; have n0_ := am (blk_below (zB BK114.out) hb); have n1_ := am (blk_below (zB BK115.out) hb); have n2_ := am (below_step (zL HB.out) hb); clear BK114 BK115 HB; have BK114 := n0_; have BK115 := n1_; have HB := n2_; clear n0_ n1_ n2_; (try clear hb); (try clear hb2); (try clear hk); (try clear hi); obtain ⟨hcz20_0, hcz20_1, hcz20_2, hcz20_3, hfz20_0, hfz20_1, hfz20_2, hfz20_3⟩ := b4 BK114.out; obtain ⟨hcz21_0, hcz21_1, hfz21_0, hfz21_1⟩ := b2 BK115.out) | ((with_reducible refine gate_callee (f := 62) rfl ?_); refine goesL_ (some 13) rfl rfl Try.func62 (by kernel_rfl) rfl #[.int .i64 a1_0] rfl mp1 ?_; (with_reducible refine (mode_Valid.calls a1_0 false _ A6.out).mono ?_); rintro e w' ⟨rfl, ⟨nd, rfl⟩⟩; refine ⟨_, rfl, ?_⟩))
    go_ret
    exact ⟨by first | rfl | (simp [errW_none, errW_some] <;> rfl) | (simp [*, errW_none, errW_some] <;> rfl), by repeat (first | (with_reducible first | exact HB.out | apply ba | apply bd | apply be | refine below_set ?_ GE114.out | refine below_set ?_ GE115.out) | exact HB.out)⟩
  ·rw [if_neg c5] at H
   have c5b0 : (a0_1 == 1) = false := beq_eq_false_iff_ne.mpr c5
   have c5b1 : (a0_1 != 1) = true := bne_iff_ne.mpr c5
   by_cases c22 : a1_0 = 0
   ·rw [if_pos c22] at H
    have c22b0 : (a1_0 == 0) = true := beq_iff_eq.mpr c22
    have c22b1 : (a1_0 != 0) = false := bne_eq_false_iff_eq.mpr c22
    clear c22
    by_cases c23 : a1_1 ≥ 1
    ·rw [if_pos c23] at H
     have c23b0 : decide (1 ≤ a1_1) = true := decide_eq_true c23
     clear c23
     obtain rfl := Option.some.inj H
     go_enter Try.func50, Try.ntmps50
     go_wp2_with (first | ((with_reducible refine gate_dst (N := 2) rfl ?_); refine box_event ?hg (N := 2) ?hd (cs := #[.string a0_0, .int .i64 a0_1, .int .i64 a0_2, .int .i64 a0_3]) (t := 59) ?hr ?_; (case hd => rfl); (case hg => rfl); (case hr => first | (go_simp; done) | (go_simp; rfl)); intro gb114 hg w24 hbox hb; have n0_ := am (below_step (zL HB.out) hb); have n1_ := am (hbox); have n2_ := am (zS hg HB.out); have n3_ := am (zS hg HB.out); clear HB; have HB := n0_; have BK114 := n1_; have GW114 := n2_; have GE114 := n3_; clear n0_ n1_ n2_ n3_; clear hb hbox hg) | ((with_reducible refine gate_dst (N := 3) rfl ?_); refine box_event ?hg (N := 3) ?hd (cs := #[.int .i64 a1_0, .int .i64 a1_1]) (t := 23) ?hr ?_; (case hd => rfl); (case hg => rfl); (case hr => first | (go_simp; done) | (go_simp; rfl)); intro gb115 hg w25 hbox hb; have n0_ := am (blk_below (zB BK114.out) hb); have n1_ := am (below_step (zL HB.out) hb); have n2_ := am (hbox); have n3_ := am (zS hg HB.out); have n4_ := am (zS hg HB.out); have n5_ := am (zN hg BK114.out); have n6_ := am (zM hg BK114.out); clear BK114 HB; have BK114 := n0_; have HB := n1_; have BK115 := n2_; have GW115 := n3_; have GE115 := n4_; have NB114_115 := n5_; have NB115_114 := n6_; clear n0_ n1_ n2_ n3_ n4_ n5_ n6_; clear hb hbox hg; have hnb26 := NB114_115.out; have hnc26 := NB115_114.out; obtain ⟨hcz27_0, hcz27_1, hcz27_2, hcz27_3, hfz27_0, hfz27_1, hfz27_2, hfz27_3⟩ := b4 BK114.out) | ((with_reducible refine gate_callee (f := 61) rfl ?_); refine goesL_ (some 6) rfl rfl Try.func61 (by kernel_rfl) rfl #[.agg #[.string a0_0, .int .i64 a0_1, .int .i64 a0_2, .int .i64 a0_3]] rfl mp1 ?_; (with_reducible refine (amount_Shaped.calls a0_0 a0_1 a0_2 a0_3 true _ A3.out).mono ?_); rintro e w28 ⟨rfl, hb⟩; refine ⟨_, rfl, ?_⟩; have n0_ := am (blk_below (zB BK114.out) hb); have n1_ := am (blk_below (zB BK115.out) hb); have n2_ := am (below_step (zL HB.out) hb); clear BK114 BK115 HB; have BK114 := n0_; have BK115 := n1_; have HB := n2_; clear n0_ n1_ n2_; (try clear hb); (try clear hb2); (try clear hk); (try clear hi); obtain ⟨hcz29_0, hcz29_1, hcz29_2, hcz29_3, hfz29_0, hfz29_1, hfz29_2, hfz29_3⟩ := b4 BK114.out; obtain ⟨hcz30_0, hcz30_1, hfz30_0, hfz30_1⟩ := b2 BK115.out))
     go_ret
     exact ⟨by first | rfl | (simp [errW_none, errW_some] <;> rfl) | (simp [*, errW_none, errW_some] <;> rfl), by repeat (first | (with_reducible first | exact HB.out | apply ba | apply bd | apply be | refine below_set ?_ GE114.out | refine below_set ?_ GE115.out) | exact HB.out)⟩
    ·rw [if_neg c23] at H
     have c23b0 : decide (1 ≤ a1_1) = false := decide_eq_false c23
     clear c23
     obtain rfl := Option.some.inj H
     go_enter Try.func50, Try.ntmps50
     go_wp2_with (first | ((with_reducible refine gate_dst (N := 2) rfl ?_); refine box_event ?hg (N := 2) ?hd (cs := #[.string a0_0, .int .i64 a0_1, .int .i64 a0_2, .int .i64 a0_3]) (t := 59) ?hr ?_; (case hd => rfl); (case hg => rfl); (case hr => first | (go_simp; done) | (go_simp; rfl)); intro gb114 hg w31 hbox hb; have n0_ := am (below_step (zL HB.out) hb); have n1_ := am (hbox); have n2_ := am (zS hg HB.out); have n3_ := am (zS hg HB.out); clear HB; have HB := n0_; have BK114 := n1_; have GW114 := n2_; have GE114 := n3_; clear n0_ n1_ n2_ n3_; clear hb hbox hg) | ((with_reducible refine gate_dst (N := 3) rfl ?_); refine box_event ?hg (N := 3) ?hd (cs := #[.int .i64 a1_0, .int .i64 a1_1]) (t := 23) ?hr ?_; (case hd => rfl); (case hg => rfl); (case hr => first | (go_simp; done) | (go_simp; rfl)); intro gb115 hg w32 hbox hb; have n0_ := am (blk_below (zB BK114.out) hb); have n1_ := am (below_step (zL HB.out) hb); have n2_ := am (hbox); have n3_ := am (zS hg HB.out); have n4_ := am (zS hg HB.out); have n5_ := am (zN hg BK114.out); have n6_ := am (zM hg BK114.out); clear BK114 HB; have BK114 := n0_; have HB := n1_; have BK115 := n2_; have GW115 := n3_; have GE115 := n4_; have NB114_115 := n5_; have NB115_114 := n6_; clear n0_ n1_ n2_ n3_ n4_ n5_ n6_; clear hb hbox hg; have hnb33 := NB114_115.out; have hnc33 := NB115_114.out; obtain ⟨hcz34_0, hcz34_1, hcz34_2, hcz34_3, hfz34_0, hfz34_1, hfz34_2, hfz34_3⟩ := b4 BK114.out) | ((with_reducible refine gate_callee (f := 61) rfl ?_); refine goesL_ (some 6) rfl rfl Try.func61 (by kernel_rfl) rfl #[.agg #[.string a0_0, .int .i64 a0_1, .int .i64 a0_2, .int .i64 a0_3]] rfl mp1 ?_; (with_reducible refine (amount_Shaped.calls a0_0 a0_1 a0_2 a0_3 true _ A3.out).mono ?_); rintro e w35 ⟨rfl, hb⟩; refine ⟨_, rfl, ?_⟩; have n0_ := am (blk_below (zB BK114.out) hb); have n1_ := am (blk_below (zB BK115.out) hb); have n2_ := am (below_step (zL HB.out) hb); clear BK114 BK115 HB; have BK114 := n0_; have BK115 := n1_; have HB := n2_; clear n0_ n1_ n2_; (try clear hb); (try clear hb2); (try clear hk); (try clear hi); obtain ⟨hcz36_0, hcz36_1, hcz36_2, hcz36_3, hfz36_0, hfz36_1, hfz36_2, hfz36_3⟩ := b4 BK114.out; obtain ⟨hcz37_0, hcz37_1, hfz37_0, hfz37_1⟩ := b2 BK115.out))
     go_ret
     exact ⟨by first | rfl | (simp [errW_none, errW_some] <;> rfl) | (simp [*, errW_none, errW_some] <;> rfl), by repeat (first | (with_reducible first | exact HB.out | apply ba | apply bd | apply be | refine below_set ?_ GE114.out | refine below_set ?_ GE115.out) | exact HB.out)⟩
   ·rw [if_neg c22] at H
    have c22b0 : (a1_0 == 0) = false := beq_eq_false_iff_ne.mpr c22
    have c22b1 : (a1_0 != 0) = true := bne_iff_ne.mpr c22
    obtain rfl := Option.some.inj H
    go_enter Try.func50, Try.ntmps50
    go_wp2_with (first | ((with_reducible refine gate_dst (N := 2) rfl ?_); refine box_event ?hg (N := 2) ?hd (cs := #[.string a0_0, .int .i64 a0_1, .int .i64 a0_2, .int .i64 a0_3]) (t := 59) ?hr ?_; (case hd => rfl); (case hg => rfl); (case hr => first | (go_simp; done) | (go_simp; rfl)); intro gb114 hg w38 hbox hb; have n0_ := am (below_step (zL HB.out) hb); have n1_ := am (hbox); have n2_ := am (zS hg HB.out); have n3_ := am (zS hg HB.out); clear HB; have HB := n0_; have BK114 := n1_; have GW114 := n2_; have GE114 := n3_; clear n0_ n1_ n2_ n3_; clear hb hbox hg) | ((with_reducible refine gate_dst (N := 3) rfl ?_); refine box_event ?hg (N := 3) ?hd (cs := #[.int .i64 a1_0, .int .i64 a1_1]) (t := 23) ?hr ?_; (case hd => rfl); (case hg => rfl); (case hr => first | (go_simp; done) | (go_simp; rfl)); intro gb115 hg w39 hbox hb; have n0_ := am (blk_below (zB BK114.out) hb); have n1_ := am (below_step (zL HB.out) hb); have n2_ := am (hbox); have n3_ := am (zS hg HB.out); have n4_ := am (zS hg HB.out); have n5_ := am (zN hg BK114.out); have n6_ := am (zM hg BK114.out); clear BK114 HB; have BK114 := n0_; have HB := n1_; have BK115 := n2_; have GW115 := n3_; have GE115 := n4_; have NB114_115 := n5_; have NB115_114 := n6_; clear n0_ n1_ n2_ n3_ n4_ n5_ n6_; clear hb hbox hg; have hnb40 := NB114_115.out; have hnc40 := NB115_114.out; obtain ⟨hcz41_0, hcz41_1, hcz41_2, hcz41_3, hfz41_0, hfz41_1, hfz41_2, hfz41_3⟩ := b4 BK114.out) | ((with_reducible refine gate_callee (f := 61) rfl ?_); refine goesL_ (some 6) rfl rfl Try.func61 (by kernel_rfl) rfl #[.agg #[.string a0_0, .int .i64 a0_1, .int .i64 a0_2, .int .i64 a0_3]] rfl mp1 ?_; (with_reducible refine (amount_Shaped.calls a0_0 a0_1 a0_2 a0_3 true _ A3.out).mono ?_); rintro e w42 ⟨rfl, hb⟩; refine ⟨_, rfl, ?_⟩; have n0_ := am (blk_below (zB BK114.out) hb); have n1_ := am (blk_below (zB BK115.out) hb); have n2_ := am (below_step (zL HB.out) hb); clear BK114 BK115 HB; have BK114 := n0_; have BK115 := n1_; have HB := n2_; clear n0_ n1_ n2_; (try clear hb); (try clear hb2); (try clear hk); (try clear hi); obtain ⟨hcz43_0, hcz43_1, hcz43_2, hcz43_3, hfz43_0, hfz43_1, hfz43_2, hfz43_3⟩ := b4 BK114.out; obtain ⟨hcz44_0, hcz44_1, hfz44_0, hfz44_1⟩ := b2 BK115.out))
    go_ret
    exact ⟨by first | rfl | (simp [errW_none, errW_some] <;> rfl) | (simp [*, errW_none, errW_some] <;> rfl), by repeat (first | (with_reducible first | exact HB.out | apply ba | apply bd | apply be | refine below_set ?_ GE114.out | refine below_set ?_ GE115.out) | exact HB.out)⟩
 ·replace c4 := Bool.eq_false_iff.mpr c4
  subst c4
  have H1 : (some false) = some r := by rw [if_neg (show ¬ (false = true) by decide)] at H; exact H
  clear H
  have H := H1
  clear H1
  obtain rfl := Option.some.inj H
  go_enter Try.func50, Try.ntmps50
  go_wp2_with (first | ((with_reducible refine gate_dst (N := 2) rfl ?_); refine box_event ?hg (N := 2) ?hd (cs := #[.string a0_0, .int .i64 a0_1, .int .i64 a0_2, .int .i64 a0_3]) (t := 59) ?hr ?_; (case hd => rfl); (case hg => rfl); (case hr => first | (go_simp; done) | (go_simp; rfl)); intro gb114 hg w45 hbox hb; have n0_ := am (below_step (zL HB.out) hb); have n1_ := am (hbox); have n2_ := am (zS hg HB.out); have n3_ := am (zS hg HB.out); clear HB; have HB := n0_; have BK114 := n1_; have GW114 := n2_; have GE114 := n3_; clear n0_ n1_ n2_ n3_; clear hb hbox hg) | ((with_reducible refine gate_dst (N := 3) rfl ?_); refine box_event ?hg (N := 3) ?hd (cs := #[.int .i64 a1_0, .int .i64 a1_1]) (t := 23) ?hr ?_; (case hd => rfl); (case hg => rfl); (case hr => first | (go_simp; done) | (go_simp; rfl)); intro gb115 hg w46 hbox hb; have n0_ := am (blk_below (zB BK114.out) hb); have n1_ := am (below_step (zL HB.out) hb); have n2_ := am (hbox); have n3_ := am (zS hg HB.out); have n4_ := am (zS hg HB.out); have n5_ := am (zN hg BK114.out); have n6_ := am (zM hg BK114.out); clear BK114 HB; have BK114 := n0_; have HB := n1_; have BK115 := n2_; have GW115 := n3_; have GE115 := n4_; have NB114_115 := n5_; have NB115_114 := n6_; clear n0_ n1_ n2_ n3_ n4_ n5_ n6_; clear hb hbox hg; have hnb47 := NB114_115.out; have hnc47 := NB115_114.out; obtain ⟨hcz48_0, hcz48_1, hcz48_2, hcz48_3, hfz48_0, hfz48_1, hfz48_2, hfz48_3⟩ := b4 BK114.out) | ((with_reducible refine gate_callee (f := 61) rfl ?_); refine goesL_ (some 6) rfl rfl Try.func61 (by kernel_rfl) rfl #[.agg #[.string a0_0, .int .i64 a0_1, .int .i64 a0_2, .int .i64 a0_3]] rfl mp1 ?_; (with_reducible refine (amount_Shaped.calls a0_0 a0_1 a0_2 a0_3 false _ A3.out).mono ?_); rintro e w49 ⟨rfl, hb⟩; refine ⟨_, rfl, ?_⟩; have n0_ := am (blk_below (zB BK114.out) hb); have n1_ := am (blk_below (zB BK115.out) hb); have n2_ := am (below_step (zL HB.out) hb); clear BK114 BK115 HB; have BK114 := n0_; have BK115 := n1_; have HB := n2_; clear n0_ n1_ n2_; (try clear hb); (try clear hb2); (try clear hk); (try clear hi)))
  go_ret
  exact ⟨by first | rfl | (simp [errW_none, errW_some] <;> rfl) | (simp [*, errW_none, errW_some] <;> rfl), by repeat (first | (with_reducible first | exact HB.out | apply ba | apply bd | apply be | refine below_set ?_ GE114.out | refine below_set ?_ GE115.out) | exact HB.out)⟩

/-! ### request_usable: function 56 -/
def request_usable.f (a0_0 : Int) (a0_1 : Int) : Option (Bool) := (amount_Fits.f (⟨#[]⟩ : ByteArray) 1 1 0 a0_0 a0_1).bind fun t119 => (if t119 = true then (some true) else ((amount_Fits.f (⟨#[]⟩ : ByteArray) 2 8 0 a0_0 a0_1).bind fun t120 => (some t120)))
set_option maxHeartbeats 8000000 in
set_option maxRecDepth 100000 in
theorem request_usable.calls (a0_0 : Int) (a0_1 : Int) (r : Bool) (w : World) (h : request_usable.f a0_0 a0_1 = some r) :
  Calls Try.prog 56 #[.agg #[.int .i64 a0_0, .int .i64 a0_1]] w fun e w' => e = .returned (.bool r) ∧ Below w.heap.size w w' := by
 have hu23 := Try.underlying23
 have hu59 := Try.underlying59
 have HB := am (Below.refl w.heap.size w)
 have H : ((amount_Fits.f (⟨#[]⟩ : ByteArray) 1 1 0 a0_0 a0_1).bind fun t119 => (if t119 = true then (some true) else ((amount_Fits.f (⟨#[]⟩ : ByteArray) 2 8 0 a0_0 a0_1).bind fun t120 => (some t120)))) = some r := h
 clear h
 replace H := Option.bind_eq_some_iff.mp H
 obtain ⟨t119, A20, H⟩ := H
 replace H : (if t119 = true then (some true) else ((amount_Fits.f (⟨#[]⟩ : ByteArray) 2 8 0 a0_0 a0_1).bind fun t120 => (some t120))) = some r := H
 have A2 := Aside0.mk A20
 clear A20
 by_cases c3 : t119 = true
 ·subst c3
  have H1 : (some true) = some r := by rw [if_pos rfl] at H; exact H
  clear H
  have H := H1
  clear H1
  obtain rfl := Option.some.inj H
  go_enter Try.func56, Try.ntmps56
  go_wp2_with (first | ((with_reducible refine gate_dst (N := 1) rfl ?_); refine box_event ?hg (N := 1) ?hd (cs := #[.int .i64 a0_0, .int .i64 a0_1]) (t := 23) ?hr ?_; (case hd => rfl); (case hg => rfl); (case hr => first | (go_simp; done) | (go_simp; rfl)); intro gb118 hg w4 hbox hb; have n0_ := am (below_step (zL HB.out) hb); have n1_ := am (hbox); have n2_ := am (zS hg HB.out); have n3_ := am (zS hg HB.out); clear HB; have HB := n0_; have BK118 := n1_; have GW118 := n2_; have GE118 := n3_; clear n0_ n1_ n2_ n3_; clear hb hbox hg; obtain ⟨hcz5_0, hcz5_1, hfz5_0, hfz5_1⟩ := b2 BK118.out) | ((with_reducible refine gate_callee (f := 50) rfl ?_); refine goesL_ (some 5) rfl rfl Try.func50 (by kernel_rfl) rfl #[.agg #[.string (⟨#[]⟩ : ByteArray), .int .i64 1, .int .i64 1, .int .i64 0], .agg #[.int .i64 a0_0, .int .i64 a0_1]] rfl mp2 ?_; (with_reducible refine (amount_Fits.calls (⟨#[]⟩ : ByteArray) 1 1 0 a0_0 a0_1 true _ A2.out).mono ?_); rintro e w6 ⟨rfl, hb⟩; refine ⟨_, rfl, ?_⟩; have n0_ := am (blk_below (zB BK118.out) hb); have n1_ := am (below_step (zL HB.out) hb); clear BK118 HB; have BK118 := n0_; have HB := n1_; clear n0_ n1_; (try clear hb); (try clear hb2); (try clear hk); (try clear hi)))
  go_ret
  exact ⟨by first | rfl | (simp [errW_none, errW_some] <;> rfl) | (simp [*, errW_none, errW_some] <;> rfl), by repeat (first | (with_reducible first | exact HB.out | apply ba | apply bd | apply be | refine below_set ?_ GE118.out) | exact HB.out)⟩
 ·replace c3 := Bool.eq_false_iff.mpr c3
  subst c3
  have H1 : ((amount_Fits.f (⟨#[]⟩ : ByteArray) 2 8 0 a0_0 a0_1).bind fun t120 => (some t120)) = some r := by rw [if_neg (show ¬ (false = true) by decide)] at H; exact H
  clear H
  have H := H1
  clear H1
  replace H := Option.bind_eq_some_iff.mp H
  obtain ⟨t120, A70, H⟩ := H
  replace H : (some t120) = some r := H
  have A7 := Aside0.mk A70
  clear A70
  obtain rfl := Option.some.inj H
  go_enter Try.func56, Try.ntmps56
  go_wp2_with (first | ((with_reducible refine gate_dst (N := 1) rfl ?_); refine box_event ?hg (N := 1) ?hd (cs := #[.int .i64 a0_0, .int .i64 a0_1]) (t := 23) ?hr ?_; (case hd => rfl); (case hg => rfl); (case hr => first | (go_simp; done) | (go_simp; rfl)); intro gb118 hg w8 hbox hb; have n0_ := am (below_step (zL HB.out) hb); have n1_ := am (hbox); have n2_ := am (zS hg HB.out); have n3_ := am (zS hg HB.out); clear HB; have HB := n0_; have BK118 := n1_; have GW118 := n2_; have GE118 := n3_; clear n0_ n1_ n2_ n3_; clear hb hbox hg; obtain ⟨hcz9_0, hcz9_1, hfz9_0, hfz9_1⟩ := b2 BK118.out) | ((with_reducible refine gate_callee (f := 50) rfl ?_); refine goesL_ (some 5) rfl rfl Try.func50 (by kernel_rfl) rfl #[.agg #[.string (⟨#[]⟩ : ByteArray), .int .i64 1, .int .i64 1, .int .i64 0], .agg #[.int .i64 a0_0, .int .i64 a0_1]] rfl mp2 ?_; (with_reducible refine (amount_Fits.calls (⟨#[]⟩ : ByteArray) 1 1 0 a0_0 a0_1 false _ A2.out).mono ?_); rintro e w10 ⟨rfl, hb⟩; refine ⟨_, rfl, ?_⟩; have n0_ := am (blk_below (zB BK118.out) hb); have n1_ := am (below_step (zL HB.out) hb); clear BK118 HB; have BK118 := n0_; have HB := n1_; clear n0_ n1_; (try clear hb); (try clear hb2); (try clear hk); (try clear hi); obtain ⟨hcz11_0, hcz11_1, hfz11_0, hfz11_1⟩ := b2 BK118.out) | (go_at_call 50; (with_reducible refine (amount_Fits.calls (⟨#[]⟩ : ByteArray) 2 8 0 a0_0 a0_1 t120 _ A7.out).mono ?_); rintro e w12 ⟨rfl, hb⟩; have n0_ := am (blk_below (zB BK118.out) hb); have n1_ := am (below_step (zL HB.out) hb); clear BK118 HB; have BK118 := n0_; have HB := n1_; clear n0_ n1_; (try clear hb); (try clear hb2); (try clear hk); (try clear hi)))
  go_ret
  exact ⟨by first | rfl | (simp [errW_none, errW_some] <;> rfl) | (simp [*, errW_none, errW_some] <;> rfl), by repeat (first | (with_reducible first | exact HB.out | apply ba | apply bd | apply be | refine below_set ?_ GE118.out) | exact HB.out)⟩

end Go.Proofs.Ytefbcebpokoinaa.Y

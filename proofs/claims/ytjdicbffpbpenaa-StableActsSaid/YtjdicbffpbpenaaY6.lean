-- Laid by a program of this session's (xprint.py, which runs the kit's print.py with patches of its own). Lean checks it.
import Derived.Test.YtjdicbffpbpenaaY0
namespace Go.Proofs.Ytjdicbffpbpenaa.Y
open Go.RowKit Go.Proofs.YtjdicbffpbpenaaW.PrintWords Go.Proofs.YtjdicbffpbpenaaW.PrintLast Go.Proofs.YtjdicbffpbpenaaW.PrintMore
attribute [local go_sem] max2_int min2_int max_two min_two max_three min_three max_four min_four   -- for this text's walks alone
set_option linter.unusedVariables false
set_option linter.unusedSimpArgs false

/-! ### clusterlocksref01_Uint: function 30 -/
mutual
def clusterlocksref01_Uint.l0 : Nat → List Int → Int → Int → Option (Int × Int × Int)
 | 0, _, _, _ => none
 | k + 1, x0, x5, x6 => if x6 < 10 then (if x6 ≥ (x0.length : Int) then (some (0, 0, 5)) else (if 0 ≤ x6 then (if x6 < (x0.length : Int) then (if x6 = 9 then (if (rd x0 x6) > 1 then (clusterlocksref01_Uint.j1 k x0 x5 x6 (rd x0 x6) true) else (if (rd x0 x6) = 0 then (clusterlocksref01_Uint.j1 k x0 x5 x6 (rd x0 x6) (decide (x6 > 0))) else (clusterlocksref01_Uint.j1 k x0 x5 x6 (rd x0 x6) false))) else (if (rd x0 x6) = 0 then (clusterlocksref01_Uint.j1 k x0 x5 x6 (rd x0 x6) (decide (x6 > 0))) else (clusterlocksref01_Uint.j1 k x0 x5 x6 (rd x0 x6) false))) else (none)) else (none))) else (some (0, 0, 6))
def clusterlocksref01_Uint.j1 : Nat → List Int → Int → Int → Int → Bool → Option (Int × Int × Int)
 | 0, _, _, _, _, _ => none
 | k + 1, x0, x5, x6, x7, x33 => if x33 = true then (some (0, 0, 6)) else (if 0 ≤ (IntKind.u64.wrap (wrap64 (7 * x6))) then (if x7 < 128 then (some (Go.bits .or .u64 x5 (shl .u64 (IntKind.u64.wrap (Go.bits .and .u8 x7 127)) (IntKind.u64.wrap (wrap64 (7 * x6)))), wrap64 (x6 + 1), 0)) else (clusterlocksref01_Uint.l0 k x0 (Go.bits .or .u64 x5 (shl .u64 (IntKind.u64.wrap (Go.bits .and .u8 x7 127)) (IntKind.u64.wrap (wrap64 (7 * x6))))) (wrap64 (x6 + 1)))) else (none))
end
def clusterlocksref01_Uint.f (k : Nat) (l0 : List Int) : Option (Int × Int × Int) := clusterlocksref01_Uint.l0 k l0 0 0
theorem clusterlocksref01_Uint.mono_l : ∀ k, (∀ y0 y1 y2, LeO (clusterlocksref01_Uint.l0 k y0 y1 y2) (clusterlocksref01_Uint.l0 (k + 1) y0 y1 y2)) ∧ (∀ y0 y1 y2 y3 y4, LeO (clusterlocksref01_Uint.j1 k y0 y1 y2 y3 y4) (clusterlocksref01_Uint.j1 (k + 1) y0 y1 y2 y3 y4))
 | 0 => ⟨fun _ _ _ r h => by simp [clusterlocksref01_Uint.l0] at h, fun _ _ _ _ _ r h => by simp [clusterlocksref01_Uint.j1] at h⟩
 | k + 1 => by
  obtain ⟨ih0, ih1⟩ := clusterlocksref01_Uint.mono_l k
  refine ⟨?_, ?_⟩
  ·intro y0 y1 y2
   unfold clusterlocksref01_Uint.l0
   repeat' first
   | (with_reducible exact ih0 _ _ _)
   | (with_reducible exact ih1 _ _ _ _ _)
   | (with_reducible exact LeO.refl _)
   | (with_reducible exact LeO.none _)
   | (with_reducible refine LeO.ite ?_ ?_)
   | (with_reducible refine LeO.bind ?_ (fun _ => ?_))
   | exact ih0 _ _ _
   | exact ih1 _ _ _ _ _
   | exact LeO.none _
   | refine LeO.ite ?_ ?_
   | refine LeO.bind ?_ (fun _ => ?_)
  ·intro y0 y1 y2 y3 y4
   unfold clusterlocksref01_Uint.j1
   repeat' first
   | (with_reducible exact ih0 _ _ _)
   | (with_reducible exact ih1 _ _ _ _ _)
   | (with_reducible exact LeO.refl _)
   | (with_reducible exact LeO.none _)
   | (with_reducible refine LeO.ite ?_ ?_)
   | (with_reducible refine LeO.bind ?_ (fun _ => ?_))
   | exact ih0 _ _ _
   | exact ih1 _ _ _ _ _
   | exact LeO.none _
   | refine LeO.ite ?_ ?_
   | refine LeO.bind ?_ (fun _ => ?_)
theorem clusterlocksref01_Uint.mono : ∀ a0 k, LeO (clusterlocksref01_Uint.f k a0) (clusterlocksref01_Uint.f (k + 1) a0) := by
 intro a0 k
 obtain ⟨ih0, ih1⟩ := clusterlocksref01_Uint.mono_l k
 unfold clusterlocksref01_Uint.f
 repeat' first
   | (with_reducible exact ih0 _ _ _)
   | (with_reducible exact ih1 _ _ _ _ _)
   | (with_reducible exact LeO.refl _)
   | (with_reducible exact LeO.none _)
   | (with_reducible refine LeO.ite ?_ ?_)
   | (with_reducible refine LeO.bind ?_ (fun _ => ?_))
   | exact ih0 _ _ _
   | exact ih1 _ _ _ _ _
   | exact LeO.none _
   | refine LeO.ite ?_ ?_
   | refine LeO.bind ?_ (fun _ => ?_)
set_option maxHeartbeats 8000000 in
set_option maxRecDepth 100000 in
theorem clusterlocksref01_Uint.calls (k : Nat) (A0 : Option Addr) (c0 : Nat) (l0 : List Int) (r1 : Int) (r2 : Int) (r3 : Int) (w : World) (hr0 : Kd.C (Kd.int .u8) w A0 l0.length l0) (hc0 : l0.length ≤ c0) (h : clusterlocksref01_Uint.f k l0 = some (r1, r2, r3)) :
  Calls Try.prog 30 #[.slice A0 l0.length c0] w fun e w' => e = .returned (.tuple #[.int .u64 r1, .int .i64 r2, .int .i64 r3]) ∧ Drawn0 w w' := by
 have HR0 := Aside0.mk hr0
 have HC0 := Aside0.mk hc0
 clear hr0 hc0
 have H : (clusterlocksref01_Uint.l0 k l0 0 0) = some (r1, r2, r3) := h
 clear h
 have H' := Aside0.mk H
 clear H
 go_enter Try.func30, Try.ntmps30
 go_wp2
 go_loopg [5, 6] k (fun kq v5 v6 w' => ∃ (x5_1 : Int) (x6_1 : Int), v5 = .int .u64 x5_1 ∧ v6 = .int .i64 x6_1 ∧ Aside0 (clusterlocksref01_Uint.l0 kq l0 x5_1 x6_1 = some (r1, r2, r3)) ∧ Aside0 (kq ≤ k) ∧ Drawn0 w w')
 case atStart => exact ⟨(0), (0), (by first | rfl | (simp; done) | (simp [*]; done)), (by first | rfl | (simp; done) | (simp [*]; done)), H', ⟨Nat.le_refl _⟩, by repeat (first | exact Drawn0.refl _ | apply Drawn0.step)⟩
 case round =>
  clear H'
  obtain ⟨x5_1, x6_1, rfl, rfl, HA, HK1, ⟨m1, rfl⟩⟩ := hrel
  cases gk with
  | zero => exact absurd HA.out (by simp [clusterlocksref01_Uint.l0])
  | succ k1 =>
   have H := HA.out
   clear HA
   simp only [clusterlocksref01_Uint.l0] at H
   by_cases c2 : x6_1 < 10
   ·rw [if_pos c2] at H
    have c2b0 : decide (x6_1 < 10) = true := decide_eq_true c2
    clear c2
    by_cases c3 : x6_1 ≥ (l0.length : Int)
    ·rw [if_pos c3] at H
     have c3b0 : decide ((l0.length : Int) ≤ x6_1) = true := decide_eq_true c3
     clear c3
     simp only [Option.some.injEq, Prod.mk.injEq] at H
     obtain ⟨rfl, rfl, rfl⟩ := H
     go_wp2
     go_ret3
     exact ⟨by first | rfl | (simp; done) | (simp [*]; done), by repeat (first | exact Drawn0.refl _ | apply Drawn0.step)⟩
    ·rw [if_neg c3] at H
     have c3b0 : decide ((l0.length : Int) ≤ x6_1) = false := decide_eq_false c3
     clear c3
     by_cases c4 : 0 ≤ x6_1
     ·rw [if_pos c4] at H
      have c4b0 : decide (0 ≤ x6_1) = true := decide_eq_true c4
      clear c4
      by_cases c5 : x6_1 < (l0.length : Int)
      ·rw [if_pos c5] at H
       have c5b0 : decide (x6_1 < (l0.length : Int)) = true := decide_eq_true c5
       clear c5
       have HC6 := Aside0.mk H
       clear H
       have p230 : 0 ≤ (x6_1 : Int) := of_decide_eq_true (by first | (with_reducible assumption) | assumption)
       have q230 : x6_1 < (l0.length : Int) := of_decide_eq_true (by first | (with_reducible assumption) | assumption)
       obtain ⟨ad230, e230, hx230_0⟩ := Kd.at_int HR0.out x6_1 p230 q230
       cases e230
       replace p230 := eq_true p230
       replace q230 := eq_true q230
       go_upto_region 8 with (fail)
       go_cut [33] (fun v33 wc => ∃ (kq : Nat) (x33_5 : Bool), v33 = .bool x33_5 ∧ Aside0 (clusterlocksref01_Uint.j1 kq l0 x5_1 x6_1 (rd l0 x6_1) x33_5 = some (r1, r2, r3)) ∧ Aside0 (kq ≤ k1) ∧ Drawn0 w wc)
       case first =>
        have H := HC6.out
        clear HC6
        by_cases c7 : x6_1 = 9
        ·rw [if_pos c7] at H
         have c7b0 : (x6_1 == 9) = true := beq_iff_eq.mpr c7
         have c7b1 : (x6_1 != 9) = false := bne_eq_false_iff_eq.mpr c7
         clear c7
         (first | rw [c7b0] | (simp only [i64_w, i32_w]; rw [c7b0]) | skip)
         by_cases c8 : (rd l0 x6_1) > 1
         ·rw [if_pos c8] at H
          have c8b0 : decide (1 < (rd l0 x6_1)) = true := decide_eq_true c8
          clear c8
          have H' := Aside0.mk H
          clear H
          go_wp2
          go_meet
          case rel => exact ⟨_, (true), (by first | rfl | (simp; done) | (simp [*]; done)), H', ⟨by have := HK1.out; first | omega | exact Nat.le_refl _⟩, by repeat (first | exact Drawn0.refl _ | apply Drawn0.step)⟩
         ·rw [if_neg c8] at H
          have c8b0 : decide (1 < (rd l0 x6_1)) = false := decide_eq_false c8
          clear c8
          by_cases c9 : (rd l0 x6_1) = 0
          ·rw [if_pos c9] at H
           have c9b0 : ((rd l0 x6_1) == 0) = true := beq_iff_eq.mpr c9
           have c9b1 : ((rd l0 x6_1) != 0) = false := bne_eq_false_iff_eq.mpr c9
           clear c9
           have H' := Aside0.mk H
           clear H
           go_wp2
           go_meet
           case rel => exact ⟨_, (decide (x6_1 > 0)), (by first | rfl | (simp; done) | (simp [*]; done)), H', ⟨by have := HK1.out; first | omega | exact Nat.le_refl _⟩, by repeat (first | exact Drawn0.refl _ | apply Drawn0.step)⟩
          ·rw [if_neg c9] at H
           have c9b0 : ((rd l0 x6_1) == 0) = false := beq_eq_false_iff_ne.mpr c9
           have c9b1 : ((rd l0 x6_1) != 0) = true := bne_iff_ne.mpr c9
           have H' := Aside0.mk H
           clear H
           go_wp2
           go_meet
           case rel => exact ⟨_, (false), (by first | rfl | (simp; done) | (simp [*]; done)), H', ⟨by have := HK1.out; first | omega | exact Nat.le_refl _⟩, by repeat (first | exact Drawn0.refl _ | apply Drawn0.step)⟩
        ·rw [if_neg c7] at H
         have c7b0 : (x6_1 == 9) = false := beq_eq_false_iff_ne.mpr c7
         have c7b1 : (x6_1 != 9) = true := bne_iff_ne.mpr c7
         (first | rw [c7b0] | (simp only [i64_w, i32_w]; rw [c7b0]) | skip)
         by_cases c10 : (rd l0 x6_1) = 0
         ·rw [if_pos c10] at H
          have c10b0 : ((rd l0 x6_1) == 0) = true := beq_iff_eq.mpr c10
          have c10b1 : ((rd l0 x6_1) != 0) = false := bne_eq_false_iff_eq.mpr c10
          clear c10
          have H' := Aside0.mk H
          clear H
          go_wp2
          go_meet
          case rel => exact ⟨_, (decide (x6_1 > 0)), (by first | rfl | (simp; done) | (simp [*]; done)), H', ⟨by have := HK1.out; first | omega | exact Nat.le_refl _⟩, by repeat (first | exact Drawn0.refl _ | apply Drawn0.step)⟩
         ·rw [if_neg c10] at H
          have c10b0 : ((rd l0 x6_1) == 0) = false := beq_eq_false_iff_ne.mpr c10
          have c10b1 : ((rd l0 x6_1) != 0) = true := bne_iff_ne.mpr c10
          have H' := Aside0.mk H
          clear H
          go_wp2
          go_meet
          case rel => exact ⟨_, (false), (by first | rfl | (simp; done) | (simp [*]; done)), H', ⟨by have := HK1.out; first | omega | exact Nat.le_refl _⟩, by repeat (first | exact Drawn0.refl _ | apply Drawn0.step)⟩
       case rest =>
        clear HC6
        try clear c1
        try clear c2
        try clear c2b0
        try clear p2
        try clear q2
        try clear hx2
        try clear c3
        try clear c3b0
        try clear c4
        try clear c4b0
        try clear c5
        try clear c5b0
        try clear c7
        try clear c7b0
        try clear c7b1
        try clear c8
        try clear c8b0
        try clear c9
        try clear c9b0
        try clear c9b1
        try clear c10
        try clear c10b0
        try clear c10b1
        try clear hx230_0
        try clear p230
        try clear q230
        obtain ⟨kq, x33_5, rfl, HA, HJ5, ⟨mc5, rfl⟩⟩ := hcut
        cases kq with
        | zero => exact absurd HA.out (by simp [clusterlocksref01_Uint.j1])
        | succ kj5 =>
         have H := HA.out
         clear HA
         simp only [clusterlocksref01_Uint.j1] at H
         by_cases c11 : x33_5 = true
         ·subst c11
          have H1 : (some (0, 0, 6)) = some (r1, r2, r3) := by rw [if_pos rfl] at H; exact H
          clear H
          have H := H1
          clear H1
          simp only [Option.some.injEq, Prod.mk.injEq] at H
          obtain ⟨rfl, rfl, rfl⟩ := H
          go_wp2
          go_ret3
          exact ⟨by first | rfl | (simp; done) | (simp [*]; done), by repeat (first | exact Drawn0.refl _ | apply Drawn0.step)⟩
         ·replace c11 := Bool.eq_false_iff.mpr c11
          subst c11
          have H1 : (if 0 ≤ (IntKind.u64.wrap (wrap64 (7 * x6_1))) then (if (rd l0 x6_1) < 128 then (some (Go.bits .or .u64 x5_1 (shl .u64 (IntKind.u64.wrap (Go.bits .and .u8 (rd l0 x6_1) 127)) (IntKind.u64.wrap (wrap64 (7 * x6_1)))), wrap64 (x6_1 + 1), 0)) else (clusterlocksref01_Uint.l0 kj5 l0 (Go.bits .or .u64 x5_1 (shl .u64 (IntKind.u64.wrap (Go.bits .and .u8 (rd l0 x6_1) 127)) (IntKind.u64.wrap (wrap64 (7 * x6_1))))) (wrap64 (x6_1 + 1)))) else (none)) = some (r1, r2, r3) := by rw [if_neg (show ¬ (false = true) by decide)] at H; exact H
          clear H
          have H := H1
          clear H1
          obtain ⟨ji12, hji12⟩ : ∃ j_ : Int, (IntKind.u64.wrap (wrap64 (7 * x6_1))) = j_ := ⟨_, rfl⟩
          replace H : (if 0 ≤ (ji12) then (if (rd l0 x6_1) < 128 then (some (Go.bits .or .u64 x5_1 (shl .u64 (IntKind.u64.wrap (Go.bits .and .u8 (rd l0 x6_1) 127)) (ji12)), wrap64 (x6_1 + 1), 0)) else (clusterlocksref01_Uint.l0 kj5 l0 (Go.bits .or .u64 x5_1 (shl .u64 (IntKind.u64.wrap (Go.bits .and .u8 (rd l0 x6_1) 127)) (ji12))) (wrap64 (x6_1 + 1)))) else (none)) = some (r1, r2, r3) := by first | (rw [hji12] at H; exact H) | (simp only [hji12] at H ⊢; exact H)
          by_cases c13 : 0 ≤ (ji12)
          ·rw [if_pos c13] at H
           have c13b0 := eq_true c13
           have c13b1 : decide (0 ≤ (ji12)) = true := decide_eq_true c13
           clear c13
           obtain ⟨ji14, hji14⟩ : ∃ j_ : Int, (shl .u64 (IntKind.u64.wrap (Go.bits .and .u8 (rd l0 x6_1) 127)) (ji12)) = j_ := ⟨_, rfl⟩
           replace H : (if (rd l0 x6_1) < 128 then (some (Go.bits .or .u64 x5_1 (ji14), wrap64 (x6_1 + 1), 0)) else (clusterlocksref01_Uint.l0 kj5 l0 (Go.bits .or .u64 x5_1 (ji14)) (wrap64 (x6_1 + 1)))) = some (r1, r2, r3) := by first | (rw [hji14] at H; exact H) | (simp only [hji14] at H ⊢; exact H)
           have hji14_ : (IntKind.u64.wrap ((IntKind.u64.wrap (Go.bits .and .u8 (rd l0 x6_1) 127)) * 2 ^ min (ji12).toNat 64)) = ji14 := hji14
           have hji14z : (ji12) ≤ 64 → (IntKind.u64.wrap ((IntKind.u64.wrap (Go.bits .and .u8 (rd l0 x6_1) 127)) * 2 ^ (ji12).toNat)) = ji14 := shl_small hji14
           by_cases c15 : (rd l0 x6_1) < 128
           ·rw [if_pos c15] at H
            have c15b0 : decide ((rd l0 x6_1) < 128) = true := decide_eq_true c15
            clear c15
            simp only [Option.some.injEq, Prod.mk.injEq] at H
            obtain ⟨rfl, rfl, rfl⟩ := H
            go_wp2
            go_ret3
            exact ⟨by first | rfl | (simp; done) | (simp only [← hji12, ← hji14] <;> (first | rfl | simp)) | (simp [*]; done), by repeat (first | exact Drawn0.refl _ | apply Drawn0.step)⟩
           ·rw [if_neg c15] at H
            have c15b0 : decide ((rd l0 x6_1) < 128) = false := decide_eq_false c15
            clear c15
            have H' := Aside0.mk H
            clear H
            go_wp2
            go_roundg kj5
            case measure => have := HK1.out; have := HJ5.out; omega
            case rel => exact ⟨(Go.bits .or .u64 x5_1 (ji14)), (wrap64 (x6_1 + 1)), (by first | rfl | (simp; done) | (simp only [← hji14] <;> (first | rfl | simp)) | (simp [*]; done)), (by first | rfl | (simp; done) | (simp [*]; done)), H', ⟨by have := HK1.out; have := HJ5.out; omega⟩, by repeat (first | exact Drawn0.refl _ | apply Drawn0.step)⟩
          ·rw [if_neg c13] at H
           exact absurd H (by simp)
      ·rw [if_neg c5] at H
       exact absurd H (by simp)
     ·rw [if_neg c4] at H
      exact absurd H (by simp)
   ·rw [if_neg c2] at H
    have c2b0 : decide (x6_1 < 10) = false := decide_eq_false c2
    clear c2
    simp only [Option.some.injEq, Prod.mk.injEq] at H
    obtain ⟨rfl, rfl, rfl⟩ := H
    go_wp2
    go_ret3
    exact ⟨by first | rfl | (simp; done) | (simp [*]; done), by repeat (first | exact Drawn0.refl _ | apply Drawn0.step)⟩

/-! ### clusterlocksref01_Checksum: function 37 -/
mutual
def clusterlocksref01_Checksum.l0 : Nat → List Int → Int → Int → Option (Int)
 | 0, _, _, _ => none
 | k + 1, x0, x3, x4 => if x4 < (x0.length : Int) then (if 0 ≤ x4 then (clusterlocksref01_Checksum.l1 k x0 (Go.bits .xor .u32 x3 ((rd x0 x4) % 4294967296)) x4 0) else (none)) else (some (Go.bits .xor .u32 4294967295 x3))
def clusterlocksref01_Checksum.l1 : Nat → List Int → Int → Int → Int → Option (Int)
 | 0, _, _, _, _ => none
 | k + 1, x0, x3, x4, x5 => if x5 < 8 then (if (Go.bits .and .u32 x3 1) = 1 then (clusterlocksref01_Checksum.l1 k x0 (Go.bits .xor .u32 (x3 / 2) 3988292384) x4 (wrap64 (x5 + 1))) else (clusterlocksref01_Checksum.l1 k x0 (x3 / 2) x4 (wrap64 (x5 + 1)))) else (clusterlocksref01_Checksum.l0 k x0 x3 (wrap64 (x4 + 1)))
end
def clusterlocksref01_Checksum.f (k : Nat) (l0 : List Int) : Option (Int) := clusterlocksref01_Checksum.l0 k l0 4294967295 0
theorem clusterlocksref01_Checksum.mono_l : ∀ k, (∀ y0 y1 y2, LeO (clusterlocksref01_Checksum.l0 k y0 y1 y2) (clusterlocksref01_Checksum.l0 (k + 1) y0 y1 y2)) ∧ (∀ y0 y1 y2 y3, LeO (clusterlocksref01_Checksum.l1 k y0 y1 y2 y3) (clusterlocksref01_Checksum.l1 (k + 1) y0 y1 y2 y3))
 | 0 => ⟨fun _ _ _ r h => by simp [clusterlocksref01_Checksum.l0] at h, fun _ _ _ _ r h => by simp [clusterlocksref01_Checksum.l1] at h⟩
 | k + 1 => by
  obtain ⟨ih0, ih1⟩ := clusterlocksref01_Checksum.mono_l k
  refine ⟨?_, ?_⟩
  ·intro y0 y1 y2
   unfold clusterlocksref01_Checksum.l0
   repeat' first
   | (with_reducible exact ih0 _ _ _)
   | (with_reducible exact ih1 _ _ _ _)
   | (with_reducible exact LeO.refl _)
   | (with_reducible exact LeO.none _)
   | (with_reducible refine LeO.ite ?_ ?_)
   | (with_reducible refine LeO.bind ?_ (fun _ => ?_))
   | exact ih0 _ _ _
   | exact ih1 _ _ _ _
   | exact LeO.none _
   | refine LeO.ite ?_ ?_
   | refine LeO.bind ?_ (fun _ => ?_)
  ·intro y0 y1 y2 y3
   unfold clusterlocksref01_Checksum.l1
   repeat' first
   | (with_reducible exact ih0 _ _ _)
   | (with_reducible exact ih1 _ _ _ _)
   | (with_reducible exact LeO.refl _)
   | (with_reducible exact LeO.none _)
   | (with_reducible refine LeO.ite ?_ ?_)
   | (with_reducible refine LeO.bind ?_ (fun _ => ?_))
   | exact ih0 _ _ _
   | exact ih1 _ _ _ _
   | exact LeO.none _
   | refine LeO.ite ?_ ?_
   | refine LeO.bind ?_ (fun _ => ?_)
theorem clusterlocksref01_Checksum.mono : ∀ a0 k, LeO (clusterlocksref01_Checksum.f k a0) (clusterlocksref01_Checksum.f (k + 1) a0) := by
 intro a0 k
 obtain ⟨ih0, ih1⟩ := clusterlocksref01_Checksum.mono_l k
 unfold clusterlocksref01_Checksum.f
 repeat' first
   | (with_reducible exact ih0 _ _ _)
   | (with_reducible exact ih1 _ _ _ _)
   | (with_reducible exact LeO.refl _)
   | (with_reducible exact LeO.none _)
   | (with_reducible refine LeO.ite ?_ ?_)
   | (with_reducible refine LeO.bind ?_ (fun _ => ?_))
   | exact ih0 _ _ _
   | exact ih1 _ _ _ _
   | exact LeO.none _
   | refine LeO.ite ?_ ?_
   | refine LeO.bind ?_ (fun _ => ?_)
set_option maxHeartbeats 8000000 in
set_option maxRecDepth 100000 in
theorem clusterlocksref01_Checksum.calls (k : Nat) (A0 : Option Addr) (c0 : Nat) (l0 : List Int) (r : Int) (w : World) (hr0 : Kd.C (Kd.int .u8) w A0 l0.length l0) (hc0 : l0.length ≤ c0) (h : clusterlocksref01_Checksum.f k l0 = some r) :
  Calls Try.prog 37 #[.slice A0 l0.length c0] w fun e w' => e = .returned (.int .u32 r) ∧ Drawn0 w w' := by
 have HR0 := Aside0.mk hr0
 have HC0 := Aside0.mk hc0
 clear hr0 hc0
 have H : (clusterlocksref01_Checksum.l0 k l0 4294967295 0) = some r := h
 clear h
 have H' := Aside0.mk H
 clear H
 go_enter Try.func37, Try.ntmps37
 go_wp2
 go_loopg [3, 4] k (fun kq v3 v4 w' => ∃ (x3_1 : Int) (x4_1 : Int), v3 = .int .u32 x3_1 ∧ v4 = .int .i64 x4_1 ∧ Aside0 (clusterlocksref01_Checksum.l0 kq l0 x3_1 x4_1 = some r) ∧ Aside0 (kq ≤ k) ∧ Drawn0 w w')
 case atStart => exact ⟨(4294967295), (0), (by first | rfl | (simp; done) | (simp [*]; done)), (by first | rfl | (simp; done) | (simp [*]; done)), H', ⟨Nat.le_refl _⟩, by repeat (first | exact Drawn0.refl _ | apply Drawn0.step)⟩
 case round =>
  clear H'
  obtain ⟨x3_1, x4_1, rfl, rfl, HA, HK1, ⟨m1, rfl⟩⟩ := hrel
  cases gk with
  | zero => exact absurd HA.out (by simp [clusterlocksref01_Checksum.l0])
  | succ k1 =>
   have H := HA.out
   clear HA
   simp only [clusterlocksref01_Checksum.l0] at H
   by_cases c2 : x4_1 < (l0.length : Int)
   ·rw [if_pos c2] at H
    have c2b0 : decide (x4_1 < (l0.length : Int)) = true := decide_eq_true c2
    clear c2
    by_cases c3 : 0 ≤ x4_1
    ·rw [if_pos c3] at H
     have c3b0 : decide (0 ≤ x4_1) = true := decide_eq_true c3
     clear c3
     have H' := Aside0.mk H
     clear H
     have p231 : 0 ≤ (x4_1 : Int) := of_decide_eq_true (by first | (with_reducible assumption) | assumption)
     have q231 : x4_1 < (l0.length : Int) := of_decide_eq_true (by first | (with_reducible assumption) | assumption)
     obtain ⟨ad231, e231, hx231_0⟩ := Kd.at_int HR0.out x4_1 p231 q231
     cases e231
     replace p231 := eq_true p231
     replace q231 := eq_true q231
     go_wp2
     go_loopg [3, 5] k1 (fun kq v3 v5 w' => ∃ (x3_2 : Int) (x5_2 : Int), v3 = .int .u32 x3_2 ∧ v5 = .int .i64 x5_2 ∧ Aside0 (clusterlocksref01_Checksum.l1 kq l0 x3_2 x4_1 x5_2 = some r) ∧ Aside0 (kq ≤ k1) ∧ Drawn0 w w')
     case atStart => exact ⟨(Go.bits .xor .u32 x3_1 ((rd l0 x4_1) % 4294967296)), (0), (by first | rfl | (simp; done) | (simp [*]; done)), (by first | rfl | (simp; done) | (simp [*]; done)), H', ⟨Nat.le_refl _⟩, by repeat (first | exact Drawn0.refl _ | apply Drawn0.step)⟩
     case round =>
      clear H'
      try clear c2
      try clear c2b0
      try clear p2
      try clear q2
      try clear hx2
      try clear c3
      try clear c3b0
      try clear hx231_0
      try clear p231
      try clear q231
      obtain ⟨x3_2, x5_2, rfl, rfl, HA, HK2, ⟨m2, rfl⟩⟩ := hrel
      cases gk with
      | zero => exact absurd HA.out (by simp [clusterlocksref01_Checksum.l1])
      | succ k2 =>
       have H := HA.out
       clear HA
       simp only [clusterlocksref01_Checksum.l1] at H
       by_cases c4 : x5_2 < 8
       ·rw [if_pos c4] at H
        have c4b0 : decide (x5_2 < 8) = true := decide_eq_true c4
        clear c4
        by_cases c5 : (Go.bits .and .u32 x3_2 1) = 1
        ·rw [if_pos c5] at H
         have c5b0 : ((Go.bits .and .u32 x3_2 1) == 1) = true := beq_iff_eq.mpr c5
         have c5b1 : ((Go.bits .and .u32 x3_2 1) != 1) = false := bne_eq_false_iff_eq.mpr c5
         clear c5
         have H' := Aside0.mk H
         clear H
         go_wp2
         go_roundg k2
         case measure => have := HK1.out; have := HK2.out; omega
         case rel => exact ⟨(Go.bits .xor .u32 (x3_2 / 2) 3988292384), (wrap64 (x5_2 + 1)), (by first | rfl | (simp; done) | (simp [*]; done)), (by first | rfl | (simp; done) | (simp [*]; done)), H', ⟨by have := HK1.out; have := HK2.out; omega⟩, by repeat (first | exact Drawn0.refl _ | apply Drawn0.step)⟩
        ·rw [if_neg c5] at H
         have c5b0 : ((Go.bits .and .u32 x3_2 1) == 1) = false := beq_eq_false_iff_ne.mpr c5
         have c5b1 : ((Go.bits .and .u32 x3_2 1) != 1) = true := bne_iff_ne.mpr c5
         have H' := Aside0.mk H
         clear H
         go_wp2
         go_roundg k2
         case measure => have := HK1.out; have := HK2.out; omega
         case rel => exact ⟨(x3_2 / 2), (wrap64 (x5_2 + 1)), (by first | rfl | (simp; done) | (simp [*]; done)), (by first | rfl | (simp; done) | (simp [*]; done)), H', ⟨by have := HK1.out; have := HK2.out; omega⟩, by repeat (first | exact Drawn0.refl _ | apply Drawn0.step)⟩
       ·rw [if_neg c4] at H
        have c4b0 : decide (x5_2 < 8) = false := decide_eq_false c4
        clear c4
        have H' := Aside0.mk H
        clear H
        go_wp2
        go_roundg k2
        case measure => have := HK1.out; have := HK2.out; omega
        case rel => exact ⟨(x3_2), (wrap64 (x4_1 + 1)), (by first | rfl | (simp; done) | (simp [*]; done)), (by first | rfl | (simp; done) | (simp [*]; done)), H', ⟨by have := HK1.out; have := HK2.out; omega⟩, by repeat (first | exact Drawn0.refl _ | apply Drawn0.step)⟩
    ·rw [if_neg c3] at H
     exact absurd H (by simp)
   ·rw [if_neg c2] at H
    have c2b0 : decide (x4_1 < (l0.length : Int)) = false := decide_eq_false c2
    clear c2
    obtain rfl := Option.some.inj H
    go_wp2
    go_ret
    exact ⟨by first | rfl | (simp; done) | (simp [*]; done), by repeat (first | exact Drawn0.refl _ | apply Drawn0.step)⟩

/-! ### clusterlocksref01_Unframe: function 29 -/
def clusterlocksref01_Unframe.f (k : Nat) (l0 : List Int) : Option (List Int × Int × Int) := (clusterlocksref01_Uint.f k l0).bind fun bt232 => (if bt232.2.2 = 0 then (if bt232.1 > 4096 then (some (([] : List Int), 0, 3)) else (if (wrap64 ((l0.length : Int) - bt232.2.1)) < (wrap64 ((wrap64 (bt232.1)) + 4)) then (some (([] : List Int), 0, 5)) else ((some (([] : List Int) : List Int)).bind fun y235 => (if 0 ≤ bt232.2.1 then (if bt232.2.1 ≤ (wrap64 (bt232.2.1 + (wrap64 (bt232.1)))) then (if (wrap64 (bt232.2.1 + (wrap64 (bt232.1)))) ≤ (l0.length : Int) then ((some ((l0.take ((wrap64 (bt232.2.1 + (wrap64 (bt232.1)))) : Int).toNat).drop (bt232.2.1 : Int).toNat : List Int)).bind fun y238 => (if y235.length + y238.length < 140737488355328 then ((some (y235 ++ y238 : List Int)).bind fun y242 => (if 0 ≤ (wrap64 (bt232.2.1 + (wrap64 (bt232.1)))) then ((some (l0.drop ((wrap64 (bt232.2.1 + (wrap64 (bt232.1)))) : Int).toNat : List Int)).bind fun y245 => ((clusterlocksref01_Checksum.f k y242).bind fun t249 => (if 0 < (y245.length : Int) then (if 1 < (y245.length : Int) then (if 2 < (y245.length : Int) then (if 3 < (y245.length : Int) then (if t249 = (Go.bits .or .u32 (Go.bits .or .u32 (Go.bits .or .u32 ((((rd y245 0) % 4294967296) * 16777216) % 4294967296) ((((rd y245 1) % 4294967296) * 65536) % 4294967296)) ((((rd y245 2) % 4294967296) * 256) % 4294967296)) ((rd y245 3) % 4294967296)) then (some (y242, wrap64 ((wrap64 (bt232.2.1 + (wrap64 (bt232.1)))) + 4), 0)) else (some (([] : List Int), 0, 7))) else (none)) else (none)) else (none)) else (none)))) else (none))) else (none))) else (none)) else (none)) else (none))))) else (some (([] : List Int), 0, bt232.2.2)))
theorem clusterlocksref01_Unframe.mono : ∀ a0 k, LeO (clusterlocksref01_Unframe.f k a0) (clusterlocksref01_Unframe.f (k + 1) a0) := by
 intro a0 k
 unfold clusterlocksref01_Unframe.f
 repeat' first
   | (with_reducible exact clusterlocksref01_Checksum.mono _ _)
   | (with_reducible exact clusterlocksref01_Uint.mono _ _)
   | (with_reducible exact LeO.refl _)
   | (with_reducible exact LeO.none _)
   | (with_reducible refine LeO.ite ?_ ?_)
   | (with_reducible refine LeO.bind ?_ (fun _ => ?_))
   | exact clusterlocksref01_Checksum.mono _ _
   | exact clusterlocksref01_Uint.mono _ _
   | exact LeO.none _
   | refine LeO.ite ?_ ?_
   | refine LeO.bind ?_ (fun _ => ?_)
set_option maxHeartbeats 8000000 in
set_option maxRecDepth 100000 in
theorem clusterlocksref01_Unframe.calls (k : Nat) (A0 : Option Addr) (c0 : Nat) (l0 : List Int) (r1 : List Int) (r2 : Int) (r3 : Int) (w : World) (hr0 : Kd.C (Kd.int .u8) w A0 l0.length l0) (hc0 : l0.length ≤ c0) (h : clusterlocksref01_Unframe.f k l0 = some (r1, r2, r3)) :
  Calls Try.prog 29 #[.slice A0 l0.length c0] w fun e w' => ∃ v0_ : Value, e = .returned (.tuple #[v0_, .int .i64 r2, .int .i64 r3]) ∧ Kd.R (Kd.int .u8) 5 w' w.heap.size (fun _ => True) v0_ r1 ∧ Below w.heap.size w w' := by
 have HR0 := Aside0.mk hr0
 have HC0 := Aside0.mk hc0
 clear hr0 hc0
 have HB := am (Below.refl w.heap.size w)
 have H : ((clusterlocksref01_Uint.f k l0).bind fun bt232 => (if bt232.2.2 = 0 then (if bt232.1 > 4096 then (some (([] : List Int), 0, 3)) else (if (wrap64 ((l0.length : Int) - bt232.2.1)) < (wrap64 ((wrap64 (bt232.1)) + 4)) then (some (([] : List Int), 0, 5)) else ((some (([] : List Int) : List Int)).bind fun y235 => (if 0 ≤ bt232.2.1 then (if bt232.2.1 ≤ (wrap64 (bt232.2.1 + (wrap64 (bt232.1)))) then (if (wrap64 (bt232.2.1 + (wrap64 (bt232.1)))) ≤ (l0.length : Int) then ((some ((l0.take ((wrap64 (bt232.2.1 + (wrap64 (bt232.1)))) : Int).toNat).drop (bt232.2.1 : Int).toNat : List Int)).bind fun y238 => (if y235.length + y238.length < 140737488355328 then ((some (y235 ++ y238 : List Int)).bind fun y242 => (if 0 ≤ (wrap64 (bt232.2.1 + (wrap64 (bt232.1)))) then ((some (l0.drop ((wrap64 (bt232.2.1 + (wrap64 (bt232.1)))) : Int).toNat : List Int)).bind fun y245 => ((clusterlocksref01_Checksum.f k y242).bind fun t249 => (if 0 < (y245.length : Int) then (if 1 < (y245.length : Int) then (if 2 < (y245.length : Int) then (if 3 < (y245.length : Int) then (if t249 = (Go.bits .or .u32 (Go.bits .or .u32 (Go.bits .or .u32 ((((rd y245 0) % 4294967296) * 16777216) % 4294967296) ((((rd y245 1) % 4294967296) * 65536) % 4294967296)) ((((rd y245 2) % 4294967296) * 256) % 4294967296)) ((rd y245 3) % 4294967296)) then (some (y242, wrap64 ((wrap64 (bt232.2.1 + (wrap64 (bt232.1)))) + 4), 0)) else (some (([] : List Int), 0, 7))) else (none)) else (none)) else (none)) else (none)))) else (none))) else (none))) else (none)) else (none)) else (none))))) else (some (([] : List Int), 0, bt232.2.2)))) = some (r1, r2, r3) := h
 clear h
 replace H := Option.bind_eq_some_iff.mp H
 obtain ⟨⟨t232, t233, t234⟩, A20, H⟩ := H
 replace H : (if t234 = 0 then (if t232 > 4096 then (some (([] : List Int), 0, 3)) else (if (wrap64 ((l0.length : Int) - t233)) < (wrap64 ((wrap64 (t232)) + 4)) then (some (([] : List Int), 0, 5)) else ((some (([] : List Int) : List Int)).bind fun y235 => (if 0 ≤ t233 then (if t233 ≤ (wrap64 (t233 + (wrap64 (t232)))) then (if (wrap64 (t233 + (wrap64 (t232)))) ≤ (l0.length : Int) then ((some ((l0.take ((wrap64 (t233 + (wrap64 (t232)))) : Int).toNat).drop (t233 : Int).toNat : List Int)).bind fun y238 => (if y235.length + y238.length < 140737488355328 then ((some (y235 ++ y238 : List Int)).bind fun y242 => (if 0 ≤ (wrap64 (t233 + (wrap64 (t232)))) then ((some (l0.drop ((wrap64 (t233 + (wrap64 (t232)))) : Int).toNat : List Int)).bind fun y245 => ((clusterlocksref01_Checksum.f k y242).bind fun t249 => (if 0 < (y245.length : Int) then (if 1 < (y245.length : Int) then (if 2 < (y245.length : Int) then (if 3 < (y245.length : Int) then (if t249 = (Go.bits .or .u32 (Go.bits .or .u32 (Go.bits .or .u32 ((((rd y245 0) % 4294967296) * 16777216) % 4294967296) ((((rd y245 1) % 4294967296) * 65536) % 4294967296)) ((((rd y245 2) % 4294967296) * 256) % 4294967296)) ((rd y245 3) % 4294967296)) then (some (y242, wrap64 ((wrap64 (t233 + (wrap64 (t232)))) + 4), 0)) else (some (([] : List Int), 0, 7))) else (none)) else (none)) else (none)) else (none)))) else (none))) else (none))) else (none)) else (none)) else (none))))) else (some (([] : List Int), 0, t234))) = some (r1, r2, r3) := H
 have A2 := Aside0.mk A20
 clear A20
 by_cases c3 : t234 = 0
 ·rw [if_pos c3] at H
  have c3b0 : (t234 == 0) = true := beq_iff_eq.mpr c3
  have c3b1 : (t234 != 0) = false := bne_eq_false_iff_eq.mpr c3
  clear c3
  by_cases c4 : t232 > 4096
  ·rw [if_pos c4] at H
   have c4b0 : decide (4096 < t232) = true := decide_eq_true c4
   clear c4
   simp only [Option.some.injEq, Prod.mk.injEq] at H
   obtain ⟨rfl, rfl, rfl⟩ := H
   go_enter Try.func29, Try.ntmps29
   go_wp2_with (first | (go_at_call 30; (with_reducible refine (clusterlocksref01_Uint.calls k _ _ l0 t232 t233 t234 _ ?side1 ?side2 A2.out).mono ?_); (case side1 => exact zC HR0.out); (case side2 => exact HC0.out); rintro e w' ⟨rfl, ⟨nd, rfl⟩⟩; (try first | exact ⟨rfl, _, World.drewN_drewN _ _ _⟩ | exact ⟨rfl, _, Eq.trans (World.drewN_drewN _ _ _) (congrArg (World.drewN _) (Nat.add_assoc _ _ _))⟩)))
   repeat (go_quiet (first | (go_at_call 30; (with_reducible refine (clusterlocksref01_Uint.calls k _ _ l0 t232 t233 t234 _ ?side1 ?side2 A2.out).mono ?_); (case side1 => exact zC HR0.out); (case side2 => exact HC0.out); rintro e w' ⟨rfl, ⟨nd, rfl⟩⟩; (try first | exact ⟨rfl, _, World.drewN_drewN _ _ _⟩ | exact ⟨rfl, _, Eq.trans (World.drewN_drewN _ _ _) (congrArg (World.drewN _) (Nat.add_assoc _ _ _))⟩))); try go_wp2_with (first | (go_at_call 30; (with_reducible refine (clusterlocksref01_Uint.calls k _ _ l0 t232 t233 t234 _ ?side1 ?side2 A2.out).mono ?_); (case side1 => exact zC HR0.out); (case side2 => exact HC0.out); rintro e w' ⟨rfl, ⟨nd, rfl⟩⟩; (try first | exact ⟨rfl, _, World.drewN_drewN _ _ _⟩ | exact ⟨rfl, _, Eq.trans (World.drewN_drewN _ _ _) (congrArg (World.drewN _) (Nat.add_assoc _ _ _))⟩))))
   go_ret3
   exact ⟨_, by first | rfl | (simp [errW_none, errW_some] <;> rfl) | (simp [*, errW_none, errW_some] <;> rfl), by first | exact Kd.R_nil _ _ _ _ _ | exact Kd.N_nil _ _ _ _ _ | exact Kd.V_nil _ _ _ _ _ | exact Kd.Q_nil _ _ _ _ _ | exact Kd.S_nil _ _ _ _ _, zL HB.out⟩
  ·rw [if_neg c4] at H
   have c4b0 : decide (4096 < t232) = false := decide_eq_false c4
   clear c4
   by_cases c5 : (wrap64 ((l0.length : Int) - t233)) < (wrap64 ((wrap64 (t232)) + 4))
   ·rw [if_pos c5] at H
    have c5b0 : decide ((wrap64 ((l0.length : Int) - t233)) < (wrap64 ((wrap64 (t232)) + 4))) = true := decide_eq_true c5
    clear c5
    simp only [Option.some.injEq, Prod.mk.injEq] at H
    obtain ⟨rfl, rfl, rfl⟩ := H
    go_enter Try.func29, Try.ntmps29
    go_wp2_with (first | (go_at_call 30; (with_reducible refine (clusterlocksref01_Uint.calls k _ _ l0 t232 t233 t234 _ ?side1 ?side2 A2.out).mono ?_); (case side1 => exact zC HR0.out); (case side2 => exact HC0.out); rintro e w' ⟨rfl, ⟨nd, rfl⟩⟩; (try first | exact ⟨rfl, _, World.drewN_drewN _ _ _⟩ | exact ⟨rfl, _, Eq.trans (World.drewN_drewN _ _ _) (congrArg (World.drewN _) (Nat.add_assoc _ _ _))⟩)))
    repeat (go_quiet (first | (go_at_call 30; (with_reducible refine (clusterlocksref01_Uint.calls k _ _ l0 t232 t233 t234 _ ?side1 ?side2 A2.out).mono ?_); (case side1 => exact zC HR0.out); (case side2 => exact HC0.out); rintro e w' ⟨rfl, ⟨nd, rfl⟩⟩; (try first | exact ⟨rfl, _, World.drewN_drewN _ _ _⟩ | exact ⟨rfl, _, Eq.trans (World.drewN_drewN _ _ _) (congrArg (World.drewN _) (Nat.add_assoc _ _ _))⟩))); try go_wp2_with (first | (go_at_call 30; (with_reducible refine (clusterlocksref01_Uint.calls k _ _ l0 t232 t233 t234 _ ?side1 ?side2 A2.out).mono ?_); (case side1 => exact zC HR0.out); (case side2 => exact HC0.out); rintro e w' ⟨rfl, ⟨nd, rfl⟩⟩; (try first | exact ⟨rfl, _, World.drewN_drewN _ _ _⟩ | exact ⟨rfl, _, Eq.trans (World.drewN_drewN _ _ _) (congrArg (World.drewN _) (Nat.add_assoc _ _ _))⟩))))
    go_ret3
    exact ⟨_, by first | rfl | (simp [errW_none, errW_some] <;> rfl) | (simp [*, errW_none, errW_some] <;> rfl), by first | exact Kd.R_nil _ _ _ _ _ | exact Kd.N_nil _ _ _ _ _ | exact Kd.V_nil _ _ _ _ _ | exact Kd.Q_nil _ _ _ _ _ | exact Kd.S_nil _ _ _ _ _, zL HB.out⟩
   ·rw [if_neg c5] at H
    have c5b0 : decide ((wrap64 ((l0.length : Int) - t233)) < (wrap64 ((wrap64 (t232)) + 4))) = false := decide_eq_false c5
    clear c5
    obtain ⟨y235, hy235⟩ : ∃ y_ : List Int, y_ = (([] : List Int)) := ⟨_, rfl⟩
    replace H : (if 0 ≤ t233 then (if t233 ≤ (wrap64 (t233 + (wrap64 (t232)))) then (if (wrap64 (t233 + (wrap64 (t232)))) ≤ (l0.length : Int) then ((some ((l0.take ((wrap64 (t233 + (wrap64 (t232)))) : Int).toNat).drop (t233 : Int).toNat : List Int)).bind fun y238 => (if y235.length + y238.length < 140737488355328 then ((some (y235 ++ y238 : List Int)).bind fun y242 => (if 0 ≤ (wrap64 (t233 + (wrap64 (t232)))) then ((some (l0.drop ((wrap64 (t233 + (wrap64 (t232)))) : Int).toNat : List Int)).bind fun y245 => ((clusterlocksref01_Checksum.f k y242).bind fun t249 => (if 0 < (y245.length : Int) then (if 1 < (y245.length : Int) then (if 2 < (y245.length : Int) then (if 3 < (y245.length : Int) then (if t249 = (Go.bits .or .u32 (Go.bits .or .u32 (Go.bits .or .u32 ((((rd y245 0) % 4294967296) * 16777216) % 4294967296) ((((rd y245 1) % 4294967296) * 65536) % 4294967296)) ((((rd y245 2) % 4294967296) * 256) % 4294967296)) ((rd y245 3) % 4294967296)) then (some (y242, wrap64 ((wrap64 (t233 + (wrap64 (t232)))) + 4), 0)) else (some (([] : List Int), 0, 7))) else (none)) else (none)) else (none)) else (none)))) else (none))) else (none))) else (none)) else (none)) else (none)) = some (r1, r2, r3) := by first | (rw [hy235]; with_reducible exact H) | (have H2_ := (Option.bind_some _ _).symm.trans H; rw [hy235]; with_reducible exact H2_) | (have H2_ := (Option.bind_some _ _).symm.trans H; with_reducible exact H2_) | with_reducible exact H | (rw [hy235]; exact H) | exact H
    have Ny235 := Aside0.mk hy235
    clear hy235
    by_cases c6 : 0 ≤ t233
    ·rw [if_pos c6] at H
     have c6b0 := eq_true c6
     have c6b1 : decide (0 ≤ t233) = true := decide_eq_true c6
     clear c6
     by_cases c7 : t233 ≤ (wrap64 (t233 + (wrap64 (t232))))
     ·rw [if_pos c7] at H
      have c7b0 := eq_true c7
      have c7b1 : decide (t233 ≤ (wrap64 (t233 + (wrap64 (t232))))) = true := decide_eq_true c7
      by_cases c8 : (wrap64 (t233 + (wrap64 (t232)))) ≤ (l0.length : Int)
      ·rw [if_pos c8] at H
       have c8b0 := eq_true c8
       have c8b1 : decide ((wrap64 (t233 + (wrap64 (t232)))) ≤ (l0.length : Int)) = true := decide_eq_true c8
       obtain ⟨y238, hy238⟩ : ∃ y_ : List Int, y_ = ((l0.take ((wrap64 (t233 + (wrap64 (t232)))) : Int).toNat).drop (t233 : Int).toNat) := ⟨_, rfl⟩
       replace H : (if y235.length + y238.length < 140737488355328 then ((some (y235 ++ y238 : List Int)).bind fun y242 => (if 0 ≤ (wrap64 (t233 + (wrap64 (t232)))) then ((some (l0.drop ((wrap64 (t233 + (wrap64 (t232)))) : Int).toNat : List Int)).bind fun y245 => ((clusterlocksref01_Checksum.f k y242).bind fun t249 => (if 0 < (y245.length : Int) then (if 1 < (y245.length : Int) then (if 2 < (y245.length : Int) then (if 3 < (y245.length : Int) then (if t249 = (Go.bits .or .u32 (Go.bits .or .u32 (Go.bits .or .u32 ((((rd y245 0) % 4294967296) * 16777216) % 4294967296) ((((rd y245 1) % 4294967296) * 65536) % 4294967296)) ((((rd y245 2) % 4294967296) * 256) % 4294967296)) ((rd y245 3) % 4294967296)) then (some (y242, wrap64 ((wrap64 (t233 + (wrap64 (t232)))) + 4), 0)) else (some (([] : List Int), 0, 7))) else (none)) else (none)) else (none)) else (none)))) else (none))) else (none)) = some (r1, r2, r3) := by first | (rw [hy238]; with_reducible exact H) | (have H2_ := (Option.bind_some _ _).symm.trans H; rw [hy238]; with_reducible exact H2_) | (have H2_ := (Option.bind_some _ _).symm.trans H; with_reducible exact H2_) | with_reducible exact H | (rw [hy238]; exact H) | exact H
       have Ny238 := Aside0.mk hy238
       clear hy238
       by_cases c9 : y235.length + y238.length < 140737488355328
       ·rw [if_pos c9] at H
        have LMc9 := Aside0.mk c9
        clear c9
        obtain ⟨y242, hy242⟩ : ∃ y_ : List Int, y_ = (y235 ++ y238) := ⟨_, rfl⟩
        replace H : (if 0 ≤ (wrap64 (t233 + (wrap64 (t232)))) then ((some (l0.drop ((wrap64 (t233 + (wrap64 (t232)))) : Int).toNat : List Int)).bind fun y245 => ((clusterlocksref01_Checksum.f k y242).bind fun t249 => (if 0 < (y245.length : Int) then (if 1 < (y245.length : Int) then (if 2 < (y245.length : Int) then (if 3 < (y245.length : Int) then (if t249 = (Go.bits .or .u32 (Go.bits .or .u32 (Go.bits .or .u32 ((((rd y245 0) % 4294967296) * 16777216) % 4294967296) ((((rd y245 1) % 4294967296) * 65536) % 4294967296)) ((((rd y245 2) % 4294967296) * 256) % 4294967296)) ((rd y245 3) % 4294967296)) then (some (y242, wrap64 ((wrap64 (t233 + (wrap64 (t232)))) + 4), 0)) else (some (([] : List Int), 0, 7))) else (none)) else (none)) else (none)) else (none)))) else (none)) = some (r1, r2, r3) := by first | (rw [hy242]; with_reducible exact H) | (have H2_ := (Option.bind_some _ _).symm.trans H; rw [hy242]; with_reducible exact H2_) | (have H2_ := (Option.bind_some _ _).symm.trans H; with_reducible exact H2_) | with_reducible exact H | (rw [hy242]; exact H) | exact H
        have Ny242 := Aside0.mk hy242
        clear hy242
        obtain ⟨ji10, hji10⟩ : ∃ j_ : Int, (wrap64 (t233 + (wrap64 (t232)))) = j_ := ⟨_, rfl⟩
        replace H : (if 0 ≤ (ji10) then ((some (l0.drop ((ji10) : Int).toNat : List Int)).bind fun y245 => ((clusterlocksref01_Checksum.f k y242).bind fun t249 => (if 0 < (y245.length : Int) then (if 1 < (y245.length : Int) then (if 2 < (y245.length : Int) then (if 3 < (y245.length : Int) then (if t249 = (Go.bits .or .u32 (Go.bits .or .u32 (Go.bits .or .u32 ((((rd y245 0) % 4294967296) * 16777216) % 4294967296) ((((rd y245 1) % 4294967296) * 65536) % 4294967296)) ((((rd y245 2) % 4294967296) * 256) % 4294967296)) ((rd y245 3) % 4294967296)) then (some (y242, wrap64 ((ji10) + 4), 0)) else (some (([] : List Int), 0, 7))) else (none)) else (none)) else (none)) else (none)))) else (none)) = some (r1, r2, r3) := by first | (rw [hji10] at H; exact H) | (simp only [hji10] at H ⊢; exact H)
        (try rw [hji10] at c7b0)
        (try rw [hji10] at c7b1)
        (try rw [hji10] at c7)
        (try rw [hji10] at c8b0)
        (try rw [hji10] at c8b1)
        (try rw [hji10] at c8)
        (try rw [hji10] at A2)
        (try rw [hji10] at Ny238)
        (try rw [hji10] at Ny238)
        have hji10w : (IntKind.i64.wrap (t233 + (wrap64 (t232)))) = ji10 := (i64_w _).trans hji10
        by_cases c11 : 0 ≤ (ji10)
        ·rw [if_pos c11] at H
         have c11b0 := eq_true c11
         have c11b1 : decide (0 ≤ (ji10)) = true := decide_eq_true c11
         clear c11
         have c12b0 := eq_true (of_decide_eq_true (by first | (with_reducible assumption) | assumption) : (ji10) ≤ (l0.length : Int))
         obtain ⟨y245, hy245⟩ : ∃ y_ : List Int, y_ = (l0.drop ((ji10) : Int).toNat) := ⟨_, rfl⟩
         replace H : ((clusterlocksref01_Checksum.f k y242).bind fun t249 => (if 0 < (y245.length : Int) then (if 1 < (y245.length : Int) then (if 2 < (y245.length : Int) then (if 3 < (y245.length : Int) then (if t249 = (Go.bits .or .u32 (Go.bits .or .u32 (Go.bits .or .u32 ((((rd y245 0) % 4294967296) * 16777216) % 4294967296) ((((rd y245 1) % 4294967296) * 65536) % 4294967296)) ((((rd y245 2) % 4294967296) * 256) % 4294967296)) ((rd y245 3) % 4294967296)) then (some (y242, wrap64 ((ji10) + 4), 0)) else (some (([] : List Int), 0, 7))) else (none)) else (none)) else (none)) else (none))) = some (r1, r2, r3) := by first | (rw [hy245]; with_reducible exact H) | (have H2_ := (Option.bind_some _ _).symm.trans H; rw [hy245]; with_reducible exact H2_) | (have H2_ := (Option.bind_some _ _).symm.trans H; with_reducible exact H2_) | with_reducible exact H | (rw [hy245]; exact H) | exact H
         have Ny245 := Aside0.mk hy245
         clear hy245
         replace H := Option.bind_eq_some_iff.mp H
         obtain ⟨t249, A130, H⟩ := H
         replace H : (if 0 < (y245.length : Int) then (if 1 < (y245.length : Int) then (if 2 < (y245.length : Int) then (if 3 < (y245.length : Int) then (if t249 = (Go.bits .or .u32 (Go.bits .or .u32 (Go.bits .or .u32 ((((rd y245 0) % 4294967296) * 16777216) % 4294967296) ((((rd y245 1) % 4294967296) * 65536) % 4294967296)) ((((rd y245 2) % 4294967296) * 256) % 4294967296)) ((rd y245 3) % 4294967296)) then (some (y242, wrap64 ((ji10) + 4), 0)) else (some (([] : List Int), 0, 7))) else (none)) else (none)) else (none)) else (none)) = some (r1, r2, r3) := H
         have A13 := Aside0.mk A130
         clear A130
         by_cases c14 : 0 < (y245.length : Int)
         ·rw [if_pos c14] at H
          have c14b0 : decide (0 < (y245.length : Int)) = true := decide_eq_true c14
          have c14b1 : decide (0 < y245.length) = true := decide_eq_true (by omega)
          clear c14
          by_cases c15 : 1 < (y245.length : Int)
          ·rw [if_pos c15] at H
           have c15b0 : decide (1 < (y245.length : Int)) = true := decide_eq_true c15
           have c15b1 : decide (1 < y245.length) = true := decide_eq_true (by omega)
           clear c15
           by_cases c16 : 2 < (y245.length : Int)
           ·rw [if_pos c16] at H
            have c16b0 : decide (2 < (y245.length : Int)) = true := decide_eq_true c16
            have c16b1 : decide (2 < y245.length) = true := decide_eq_true (by omega)
            clear c16
            by_cases c17 : 3 < (y245.length : Int)
            ·rw [if_pos c17] at H
             have c17b0 : decide (3 < (y245.length : Int)) = true := decide_eq_true c17
             have c17b1 : decide (3 < y245.length) = true := decide_eq_true (by omega)
             clear c17
             by_cases c18 : t249 = (Go.bits .or .u32 (Go.bits .or .u32 (Go.bits .or .u32 ((((rd y245 0) % 4294967296) * 16777216) % 4294967296) ((((rd y245 1) % 4294967296) * 65536) % 4294967296)) ((((rd y245 2) % 4294967296) * 256) % 4294967296)) ((rd y245 3) % 4294967296))
             ·rw [if_pos c18] at H
              have c18b0 : (t249 == (Go.bits .or .u32 (Go.bits .or .u32 (Go.bits .or .u32 ((((rd y245 0) % 4294967296) * 16777216) % 4294967296) ((((rd y245 1) % 4294967296) * 65536) % 4294967296)) ((((rd y245 2) % 4294967296) * 256) % 4294967296)) ((rd y245 3) % 4294967296))) = true := beq_iff_eq.mpr c18
              have c18b1 : (t249 != (Go.bits .or .u32 (Go.bits .or .u32 (Go.bits .or .u32 ((((rd y245 0) % 4294967296) * 16777216) % 4294967296) ((((rd y245 1) % 4294967296) * 65536) % 4294967296)) ((((rd y245 2) % 4294967296) * 256) % 4294967296)) ((rd y245 3) % 4294967296))) = false := bne_eq_false_iff_eq.mpr c18
              (try (have c18b2 : (t249 == (Go.bits .or .u32 (Go.bits .or .u32 (Go.bits .or .u32 (IntKind.u32.wrap ((IntKind.u32.wrap (rd y245 0)) * 16777216)) (IntKind.u32.wrap ((IntKind.u32.wrap (rd y245 1)) * 65536))) (IntKind.u32.wrap ((IntKind.u32.wrap (rd y245 2)) * 256))) (IntKind.u32.wrap (rd y245 3)))) = true := beq_iff_eq.mpr (show (t249 = (Go.bits .or .u32 (Go.bits .or .u32 (Go.bits .or .u32 (IntKind.u32.wrap ((IntKind.u32.wrap (rd y245 0)) * 16777216)) (IntKind.u32.wrap ((IntKind.u32.wrap (rd y245 1)) * 65536))) (IntKind.u32.wrap ((IntKind.u32.wrap (rd y245 2)) * 256))) (IntKind.u32.wrap (rd y245 3)))) from by simpa only [Xw.u32_w, Xw.u8_w] using c18)))
              (try (have c18b3 : (t249 != (Go.bits .or .u32 (Go.bits .or .u32 (Go.bits .or .u32 (IntKind.u32.wrap ((IntKind.u32.wrap (rd y245 0)) * 16777216)) (IntKind.u32.wrap ((IntKind.u32.wrap (rd y245 1)) * 65536))) (IntKind.u32.wrap ((IntKind.u32.wrap (rd y245 2)) * 256))) (IntKind.u32.wrap (rd y245 3)))) = false := bne_eq_false_iff_eq.mpr (show (t249 = (Go.bits .or .u32 (Go.bits .or .u32 (Go.bits .or .u32 (IntKind.u32.wrap ((IntKind.u32.wrap (rd y245 0)) * 16777216)) (IntKind.u32.wrap ((IntKind.u32.wrap (rd y245 1)) * 65536))) (IntKind.u32.wrap ((IntKind.u32.wrap (rd y245 2)) * 256))) (IntKind.u32.wrap (rd y245 3)))) from by simpa only [Xw.u32_w, Xw.u8_w] using c18)))
              clear c18
              simp only [Option.some.injEq, Prod.mk.injEq] at H
              obtain ⟨rfl, rfl, rfl⟩ := H
              go_enter Try.func29, Try.ntmps29
              go_wp2_with (first | (go_at_call 30; (with_reducible refine (clusterlocksref01_Uint.calls k _ _ l0 t232 t233 t234 _ ?side1 ?side2 A2.out).mono ?_); (case side1 => exact zC HR0.out); (case side2 => exact HC0.out); rintro e w' ⟨rfl, ⟨nd, rfl⟩⟩; (try first | exact ⟨rfl, _, World.drewN_drewN _ _ _⟩ | exact ⟨rfl, _, Eq.trans (World.drewN_drewN _ _ _) (congrArg (World.drewN _) (Nat.add_assoc _ _ _))⟩)) | ((with_reducible refine gate_dst (N := 29) rfl ?_); refine Kd.R_lit (Kd.int .u8) _ 5 ?hg (N := 29) ?hd (xs := ([] : List Int)) (inner := []) (ok := fun _ => True) (okp := fun _ => True) ?hr ?hp (fun _ hk => hk) trivial (Below.refl _ _) (Nat.le_refl _) (by simp) ?_; (case hd => rfl); (case hg => rfl); (case hr => first | (go_simp; done) | (go_simp; rfl)); (case hp => exact (Reps.none _ _)); intro v236 w19 ho20 hb hg_ hnew_; clear hg_ hnew_; (first | rw [← Ny235.out] at ho20 | (simp only [Int.reduceToNat] at ho20; rw [← Ny235.out] at ho20)); have n0_ := am (Kd.R_lower ho20 (below_size (zL HB.out))); have n1_ := am (below_step (zL HB.out) hb); clear HB; have HO237 := n0_; have HB := n1_; clear n0_ n1_; clear hb ho20; have q21 : ((ji10) : Int) ≤ ((l0.length : Int) : Int) := of_decide_eq_true (by first | (with_reducible assumption) | assumption); obtain ⟨i021, hi021, _, hsz21, _⟩ := info_parts info5; have hroom21 : l0.length ≤ c0 := HC0.out; have hC21 : Kd.C (Kd.int .u8) _ A0 l0.length l0 := HR0.out; have ql21 : (t233 : Int) ≤ ((ji10) : Int) := of_decide_eq_true (by first | (with_reducible assumption) | assumption); have q021 : (0 : Int) ≤ (t233 : Int) := of_decide_eq_true (by first | (with_reducible assumption) | assumption); have hcut21 := cut_mid (P := Try.prog) 22 5 .i64 .i64 Try.underlying22 hi021 1 hsz21 A0 l0.length c0 t233 (ji10) q021 ql21 q21 hroom21; have hr21 := Kd.C_mid (lo := (t233 : Int).toNat) (hi := ((ji10) : Int).toNat) (c := c0) hC21 (by omega) (by omega) hroom21; obtain ⟨A21, hA21⟩ : ∃ A1, A1 = (if c0 = (t233 : Int).toNat then A0 else (A0 : Option Addr).map (·.add ((t233 : Int).toNat * 1))) := ⟨_, rfl⟩; obtain ⟨c21, hc21⟩ : ∃ c1, c1 = c0 - (t233 : Int).toNat := ⟨_, rfl⟩; have hy21 : y238.length = ((ji10) : Int).toNat - (t233 : Int).toNat := (by rw [Ny238.out, List.length_drop, List.length_take] <;> omega); rw [show ((l0).take ((ji10) : Int).toNat).drop (t233 : Int).toNat = y238 from Ny238.out.symm] at hr21; replace hr21 : Kd.C (Kd.int .u8) _ A21 y238.length y238 := (by rw [hA21]; exact hr21); rw [← hy21, ← hA21, ← hc21] at hcut21; have HR241 := Aside0.mk hr21; have HC241 := am (show y238.length ≤ c21 from by rw [hy21, hc21]; exact Nat.sub_le_sub_right (Nat.le_trans (by omega) hroom21) _); clear hr21 hC21 hroom21 hi021 hsz21 hc21; have KY21 := Aside0.mk hy21; have KA21 := Aside0.mk hA21; clear hy21 hA21; replace q21 := eq_true q21) | ((with_reducible refine gate_builtin (b := .append) (xs := #[.tmp 29, .tmp 36]) rfl ?_); at_builtin; refine Kd.R_append_rows (Kd.int .u8) (w0 := w) w.heap.size rfl (.tmp 29) (.tmp 36) 22 5 (.int .u8 0) 1 rfl Try.underlying22 info5 rfl (by decide) (by omega) v236 y235 y238 _ _ _ (fun _ => True) (fun _ => False) rfl rfl ?aO ?aR (fun _ _ h => h) (fun _ h => h.elim) ?aF ?aB ?aS ?aL ?_; (case aR => exact zC (Kd.C_below HR241.out HB.out)); (case aB => exact (zL HB.out)); (case aF => exact (fun _ _ => trivial)); (case aO => exact (zR HO237.out)); (case aS => exact (below_size (zL HB.out))); (case aL => have := LMc9.out; omega); intro v243 w22 ho hb hg hat; rw [← Ny242.out] at ho; have n0_ := am (hb); have n1_ := am (ho); clear HB HO237; have HB := n0_; have HO244 := n1_; clear n0_ n1_; clear ho hb hg hat; have q23 : ((ji10) : Int) ≤ ((l0.length : Int) : Int) := of_decide_eq_true (by first | (with_reducible assumption) | assumption); obtain ⟨i023, hi023, _, hsz23, _⟩ := info_parts info5; have hroom23 : l0.length ≤ c0 := HC0.out; have hC23 : Kd.C (Kd.int .u8) _ A0 l0.length l0 := HR0.out; have q023 : (0 : Int) ≤ ((ji10) : Int) := of_decide_eq_true (by first | (with_reducible assumption) | assumption); have hcut23 := cut_from (P := Try.prog) 22 5 .i64 Try.underlying22 hi023 1 hsz23 A0 l0.length c0 (ji10) q023 q23; have hr23 := Kd.C_drop (m := ((ji10) : Int).toNat) (c := c0) hC23 (by omega) hroom23; obtain ⟨A23, hA23⟩ : ∃ A1, A1 = (if c0 = ((ji10) : Int).toNat then A0 else (A0 : Option Addr).map (·.add (((ji10) : Int).toNat * 1))) := ⟨_, rfl⟩; obtain ⟨c23, hc23⟩ : ∃ c1, c1 = c0 - ((ji10) : Int).toNat := ⟨_, rfl⟩; have hy23 : y245.length = l0.length - ((ji10) : Int).toNat := (by rw [Ny245.out, List.length_drop] <;> omega); rw [show (l0).drop ((ji10) : Int).toNat = y245 from Ny245.out.symm] at hr23; replace hr23 : Kd.C (Kd.int .u8) _ A23 y245.length y245 := (by rw [hA23]; exact hr23); rw [← hy23, ← hA23, ← hc23] at hcut23; have HR248 := Aside0.mk hr23; have HC248 := am (show y245.length ≤ c23 from by rw [hy23, hc23]; exact Nat.sub_le_sub_right hroom23 _); clear hr23 hC23 hroom23 hi023 hsz23 hc23; have KY23 := Aside0.mk hy23; have KA23 := Aside0.mk hA23; clear hy23 hA23; replace q23 := eq_true q23; obtain ⟨Ao24, co24, eo24⟩ := Kd.R_slice HO244.out; subst eo24) | (go_at_call 37; (with_reducible refine (clusterlocksref01_Checksum.calls k _ _ y242 t249 _ ?side1 ?side2 A13.out).mono ?_); (case side1 => exact zC (Kd.R_reads' HO244.out).2.2); (case side2 => exact (Kd.R_reads' HO244.out).2.1); rintro e w' ⟨rfl, ⟨nd, rfl⟩⟩; (try first | exact ⟨rfl, _, World.drewN_drewN _ _ _⟩ | exact ⟨rfl, _, Eq.trans (World.drewN_drewN _ _ _) (congrArg (World.drewN _) (Nat.add_assoc _ _ _))⟩); have p250 : 0 ≤ (0 : Int) := (by omega); have q250 : 0 < (y245.length : Int) := of_decide_eq_true (by first | (with_reducible assumption) | assumption); obtain ⟨ad250, e250, hx250_0⟩ := Kd.at_int HR248.out 0 p250 q250; cases e250; have qi250 : (0 < y245.length) = True := eq_true (by omega); (try rw [show ((0 : Int)).toNat = 0 from rfl] at hx250_0); (try rw [Addr.add_zero'] at hx250_0); replace hx250_0 := (HB.out.cell (World.block_lt_of_cell? w _ hx250_0)).trans hx250_0; replace p250 := eq_true p250; replace q250 := eq_true q250; have p251 : 0 ≤ (1 : Int) := (by omega); have q251 : 1 < (y245.length : Int) := of_decide_eq_true (by first | (with_reducible assumption) | assumption); obtain ⟨ad251, e251, hx251_0⟩ := Kd.at_int HR248.out 1 p251 q251; obtain rfl : ad250 = ad251 := (by injection e251); (try simp only [show (1 : Int).toNat = 1 from rfl, Nat.reduceMul, Nat.reduceEqDiff, Go.Addr.add, ↓reduceIte] at hx251_0); have qi251 : (1 < y245.length) = True := eq_true (by omega); (try rw [show ((1 : Int)).toNat = 1 from rfl] at hx251_0); replace hx251_0 := (HB.out.cell (World.block_lt_of_cell? w _ hx251_0)).trans hx251_0; replace p251 := eq_true p251; replace q251 := eq_true q251; have p252 : 0 ≤ (2 : Int) := (by omega); have q252 : 2 < (y245.length : Int) := of_decide_eq_true (by first | (with_reducible assumption) | assumption); obtain ⟨ad252, e252, hx252_0⟩ := Kd.at_int HR248.out 2 p252 q252; obtain rfl : ad250 = ad252 := (by injection e252); (try simp only [show (2 : Int).toNat = 2 from rfl, Nat.reduceMul, Nat.reduceEqDiff, Go.Addr.add, ↓reduceIte] at hx252_0); have qi252 : (2 < y245.length) = True := eq_true (by omega); (try rw [show ((2 : Int)).toNat = 2 from rfl] at hx252_0); replace hx252_0 := (HB.out.cell (World.block_lt_of_cell? w _ hx252_0)).trans hx252_0; replace p252 := eq_true p252; replace q252 := eq_true q252; have p253 : 0 ≤ (3 : Int) := (by omega); have q253 : 3 < (y245.length : Int) := of_decide_eq_true (by first | (with_reducible assumption) | assumption); obtain ⟨ad253, e253, hx253_0⟩ := Kd.at_int HR248.out 3 p253 q253; obtain rfl : ad250 = ad253 := (by injection e253); (try simp only [show (3 : Int).toNat = 3 from rfl, Nat.reduceMul, Nat.reduceEqDiff, Go.Addr.add, ↓reduceIte] at hx253_0); have qi253 : (3 < y245.length) = True := eq_true (by omega); (try rw [show ((3 : Int)).toNat = 3 from rfl] at hx253_0); replace hx253_0 := (HB.out.cell (World.block_lt_of_cell? w _ hx253_0)).trans hx253_0; replace p253 := eq_true p253; replace q253 := eq_true q253))
              repeat (go_quiet (first | (go_at_call 30; (with_reducible refine (clusterlocksref01_Uint.calls k _ _ l0 t232 t233 t234 _ ?side1 ?side2 A2.out).mono ?_); (case side1 => exact zC HR0.out); (case side2 => exact HC0.out); rintro e w' ⟨rfl, ⟨nd, rfl⟩⟩; (try first | exact ⟨rfl, _, World.drewN_drewN _ _ _⟩ | exact ⟨rfl, _, Eq.trans (World.drewN_drewN _ _ _) (congrArg (World.drewN _) (Nat.add_assoc _ _ _))⟩)) | ((with_reducible refine gate_dst (N := 29) rfl ?_); refine Kd.R_lit (Kd.int .u8) _ 5 ?hg (N := 29) ?hd (xs := ([] : List Int)) (inner := []) (ok := fun _ => True) (okp := fun _ => True) ?hr ?hp (fun _ hk => hk) trivial (Below.refl _ _) (Nat.le_refl _) (by simp) ?_; (case hd => rfl); (case hg => rfl); (case hr => first | (go_simp; done) | (go_simp; rfl)); (case hp => exact (Reps.none _ _)); intro v236 w19 ho20 hb hg_ hnew_; clear hg_ hnew_; (first | rw [← Ny235.out] at ho20 | (simp only [Int.reduceToNat] at ho20; rw [← Ny235.out] at ho20)); have n0_ := am (Kd.R_lower ho20 (below_size (zL HB.out))); have n1_ := am (below_step (zL HB.out) hb); clear HB; have HO237 := n0_; have HB := n1_; clear n0_ n1_; clear hb ho20; have q21 : ((ji10) : Int) ≤ ((l0.length : Int) : Int) := of_decide_eq_true (by first | (with_reducible assumption) | assumption); obtain ⟨i021, hi021, _, hsz21, _⟩ := info_parts info5; have hroom21 : l0.length ≤ c0 := HC0.out; have hC21 : Kd.C (Kd.int .u8) _ A0 l0.length l0 := HR0.out; have ql21 : (t233 : Int) ≤ ((ji10) : Int) := of_decide_eq_true (by first | (with_reducible assumption) | assumption); have q021 : (0 : Int) ≤ (t233 : Int) := of_decide_eq_true (by first | (with_reducible assumption) | assumption); have hcut21 := cut_mid (P := Try.prog) 22 5 .i64 .i64 Try.underlying22 hi021 1 hsz21 A0 l0.length c0 t233 (ji10) q021 ql21 q21 hroom21; have hr21 := Kd.C_mid (lo := (t233 : Int).toNat) (hi := ((ji10) : Int).toNat) (c := c0) hC21 (by omega) (by omega) hroom21; obtain ⟨A21, hA21⟩ : ∃ A1, A1 = (if c0 = (t233 : Int).toNat then A0 else (A0 : Option Addr).map (·.add ((t233 : Int).toNat * 1))) := ⟨_, rfl⟩; obtain ⟨c21, hc21⟩ : ∃ c1, c1 = c0 - (t233 : Int).toNat := ⟨_, rfl⟩; have hy21 : y238.length = ((ji10) : Int).toNat - (t233 : Int).toNat := (by rw [Ny238.out, List.length_drop, List.length_take] <;> omega); rw [show ((l0).take ((ji10) : Int).toNat).drop (t233 : Int).toNat = y238 from Ny238.out.symm] at hr21; replace hr21 : Kd.C (Kd.int .u8) _ A21 y238.length y238 := (by rw [hA21]; exact hr21); rw [← hy21, ← hA21, ← hc21] at hcut21; have HR241 := Aside0.mk hr21; have HC241 := am (show y238.length ≤ c21 from by rw [hy21, hc21]; exact Nat.sub_le_sub_right (Nat.le_trans (by omega) hroom21) _); clear hr21 hC21 hroom21 hi021 hsz21 hc21; have KY21 := Aside0.mk hy21; have KA21 := Aside0.mk hA21; clear hy21 hA21; replace q21 := eq_true q21) | ((with_reducible refine gate_builtin (b := .append) (xs := #[.tmp 29, .tmp 36]) rfl ?_); at_builtin; refine Kd.R_append_rows (Kd.int .u8) (w0 := w) w.heap.size rfl (.tmp 29) (.tmp 36) 22 5 (.int .u8 0) 1 rfl Try.underlying22 info5 rfl (by decide) (by omega) v236 y235 y238 _ _ _ (fun _ => True) (fun _ => False) rfl rfl ?aO ?aR (fun _ _ h => h) (fun _ h => h.elim) ?aF ?aB ?aS ?aL ?_; (case aR => exact zC (Kd.C_below HR241.out HB.out)); (case aB => exact (zL HB.out)); (case aF => exact (fun _ _ => trivial)); (case aO => exact (zR HO237.out)); (case aS => exact (below_size (zL HB.out))); (case aL => have := LMc9.out; omega); intro v243 w22 ho hb hg hat; rw [← Ny242.out] at ho; have n0_ := am (hb); have n1_ := am (ho); clear HB HO237; have HB := n0_; have HO244 := n1_; clear n0_ n1_; clear ho hb hg hat; have q23 : ((ji10) : Int) ≤ ((l0.length : Int) : Int) := of_decide_eq_true (by first | (with_reducible assumption) | assumption); obtain ⟨i023, hi023, _, hsz23, _⟩ := info_parts info5; have hroom23 : l0.length ≤ c0 := HC0.out; have hC23 : Kd.C (Kd.int .u8) _ A0 l0.length l0 := HR0.out; have q023 : (0 : Int) ≤ ((ji10) : Int) := of_decide_eq_true (by first | (with_reducible assumption) | assumption); have hcut23 := cut_from (P := Try.prog) 22 5 .i64 Try.underlying22 hi023 1 hsz23 A0 l0.length c0 (ji10) q023 q23; have hr23 := Kd.C_drop (m := ((ji10) : Int).toNat) (c := c0) hC23 (by omega) hroom23; obtain ⟨A23, hA23⟩ : ∃ A1, A1 = (if c0 = ((ji10) : Int).toNat then A0 else (A0 : Option Addr).map (·.add (((ji10) : Int).toNat * 1))) := ⟨_, rfl⟩; obtain ⟨c23, hc23⟩ : ∃ c1, c1 = c0 - ((ji10) : Int).toNat := ⟨_, rfl⟩; have hy23 : y245.length = l0.length - ((ji10) : Int).toNat := (by rw [Ny245.out, List.length_drop] <;> omega); rw [show (l0).drop ((ji10) : Int).toNat = y245 from Ny245.out.symm] at hr23; replace hr23 : Kd.C (Kd.int .u8) _ A23 y245.length y245 := (by rw [hA23]; exact hr23); rw [← hy23, ← hA23, ← hc23] at hcut23; have HR248 := Aside0.mk hr23; have HC248 := am (show y245.length ≤ c23 from by rw [hy23, hc23]; exact Nat.sub_le_sub_right hroom23 _); clear hr23 hC23 hroom23 hi023 hsz23 hc23; have KY23 := Aside0.mk hy23; have KA23 := Aside0.mk hA23; clear hy23 hA23; replace q23 := eq_true q23; obtain ⟨Ao24, co24, eo24⟩ := Kd.R_slice HO244.out; subst eo24) | (go_at_call 37; (with_reducible refine (clusterlocksref01_Checksum.calls k _ _ y242 t249 _ ?side1 ?side2 A13.out).mono ?_); (case side1 => exact zC (Kd.R_reads' HO244.out).2.2); (case side2 => exact (Kd.R_reads' HO244.out).2.1); rintro e w' ⟨rfl, ⟨nd, rfl⟩⟩; (try first | exact ⟨rfl, _, World.drewN_drewN _ _ _⟩ | exact ⟨rfl, _, Eq.trans (World.drewN_drewN _ _ _) (congrArg (World.drewN _) (Nat.add_assoc _ _ _))⟩); have p250 : 0 ≤ (0 : Int) := (by omega); have q250 : 0 < (y245.length : Int) := of_decide_eq_true (by first | (with_reducible assumption) | assumption); obtain ⟨ad250, e250, hx250_0⟩ := Kd.at_int HR248.out 0 p250 q250; cases e250; have qi250 : (0 < y245.length) = True := eq_true (by omega); (try rw [show ((0 : Int)).toNat = 0 from rfl] at hx250_0); (try rw [Addr.add_zero'] at hx250_0); replace hx250_0 := (HB.out.cell (World.block_lt_of_cell? w _ hx250_0)).trans hx250_0; replace p250 := eq_true p250; replace q250 := eq_true q250; have p251 : 0 ≤ (1 : Int) := (by omega); have q251 : 1 < (y245.length : Int) := of_decide_eq_true (by first | (with_reducible assumption) | assumption); obtain ⟨ad251, e251, hx251_0⟩ := Kd.at_int HR248.out 1 p251 q251; obtain rfl : ad250 = ad251 := (by injection e251); (try simp only [show (1 : Int).toNat = 1 from rfl, Nat.reduceMul, Nat.reduceEqDiff, Go.Addr.add, ↓reduceIte] at hx251_0); have qi251 : (1 < y245.length) = True := eq_true (by omega); (try rw [show ((1 : Int)).toNat = 1 from rfl] at hx251_0); replace hx251_0 := (HB.out.cell (World.block_lt_of_cell? w _ hx251_0)).trans hx251_0; replace p251 := eq_true p251; replace q251 := eq_true q251; have p252 : 0 ≤ (2 : Int) := (by omega); have q252 : 2 < (y245.length : Int) := of_decide_eq_true (by first | (with_reducible assumption) | assumption); obtain ⟨ad252, e252, hx252_0⟩ := Kd.at_int HR248.out 2 p252 q252; obtain rfl : ad250 = ad252 := (by injection e252); (try simp only [show (2 : Int).toNat = 2 from rfl, Nat.reduceMul, Nat.reduceEqDiff, Go.Addr.add, ↓reduceIte] at hx252_0); have qi252 : (2 < y245.length) = True := eq_true (by omega); (try rw [show ((2 : Int)).toNat = 2 from rfl] at hx252_0); replace hx252_0 := (HB.out.cell (World.block_lt_of_cell? w _ hx252_0)).trans hx252_0; replace p252 := eq_true p252; replace q252 := eq_true q252; have p253 : 0 ≤ (3 : Int) := (by omega); have q253 : 3 < (y245.length : Int) := of_decide_eq_true (by first | (with_reducible assumption) | assumption); obtain ⟨ad253, e253, hx253_0⟩ := Kd.at_int HR248.out 3 p253 q253; obtain rfl : ad250 = ad253 := (by injection e253); (try simp only [show (3 : Int).toNat = 3 from rfl, Nat.reduceMul, Nat.reduceEqDiff, Go.Addr.add, ↓reduceIte] at hx253_0); have qi253 : (3 < y245.length) = True := eq_true (by omega); (try rw [show ((3 : Int)).toNat = 3 from rfl] at hx253_0); replace hx253_0 := (HB.out.cell (World.block_lt_of_cell? w _ hx253_0)).trans hx253_0; replace p253 := eq_true p253; replace q253 := eq_true q253)); try go_wp2_with (first | (go_at_call 30; (with_reducible refine (clusterlocksref01_Uint.calls k _ _ l0 t232 t233 t234 _ ?side1 ?side2 A2.out).mono ?_); (case side1 => exact zC HR0.out); (case side2 => exact HC0.out); rintro e w' ⟨rfl, ⟨nd, rfl⟩⟩; (try first | exact ⟨rfl, _, World.drewN_drewN _ _ _⟩ | exact ⟨rfl, _, Eq.trans (World.drewN_drewN _ _ _) (congrArg (World.drewN _) (Nat.add_assoc _ _ _))⟩)) | ((with_reducible refine gate_dst (N := 29) rfl ?_); refine Kd.R_lit (Kd.int .u8) _ 5 ?hg (N := 29) ?hd (xs := ([] : List Int)) (inner := []) (ok := fun _ => True) (okp := fun _ => True) ?hr ?hp (fun _ hk => hk) trivial (Below.refl _ _) (Nat.le_refl _) (by simp) ?_; (case hd => rfl); (case hg => rfl); (case hr => first | (go_simp; done) | (go_simp; rfl)); (case hp => exact (Reps.none _ _)); intro v236 w19 ho20 hb hg_ hnew_; clear hg_ hnew_; (first | rw [← Ny235.out] at ho20 | (simp only [Int.reduceToNat] at ho20; rw [← Ny235.out] at ho20)); have n0_ := am (Kd.R_lower ho20 (below_size (zL HB.out))); have n1_ := am (below_step (zL HB.out) hb); clear HB; have HO237 := n0_; have HB := n1_; clear n0_ n1_; clear hb ho20; have q21 : ((ji10) : Int) ≤ ((l0.length : Int) : Int) := of_decide_eq_true (by first | (with_reducible assumption) | assumption); obtain ⟨i021, hi021, _, hsz21, _⟩ := info_parts info5; have hroom21 : l0.length ≤ c0 := HC0.out; have hC21 : Kd.C (Kd.int .u8) _ A0 l0.length l0 := HR0.out; have ql21 : (t233 : Int) ≤ ((ji10) : Int) := of_decide_eq_true (by first | (with_reducible assumption) | assumption); have q021 : (0 : Int) ≤ (t233 : Int) := of_decide_eq_true (by first | (with_reducible assumption) | assumption); have hcut21 := cut_mid (P := Try.prog) 22 5 .i64 .i64 Try.underlying22 hi021 1 hsz21 A0 l0.length c0 t233 (ji10) q021 ql21 q21 hroom21; have hr21 := Kd.C_mid (lo := (t233 : Int).toNat) (hi := ((ji10) : Int).toNat) (c := c0) hC21 (by omega) (by omega) hroom21; obtain ⟨A21, hA21⟩ : ∃ A1, A1 = (if c0 = (t233 : Int).toNat then A0 else (A0 : Option Addr).map (·.add ((t233 : Int).toNat * 1))) := ⟨_, rfl⟩; obtain ⟨c21, hc21⟩ : ∃ c1, c1 = c0 - (t233 : Int).toNat := ⟨_, rfl⟩; have hy21 : y238.length = ((ji10) : Int).toNat - (t233 : Int).toNat := (by rw [Ny238.out, List.length_drop, List.length_take] <;> omega); rw [show ((l0).take ((ji10) : Int).toNat).drop (t233 : Int).toNat = y238 from Ny238.out.symm] at hr21; replace hr21 : Kd.C (Kd.int .u8) _ A21 y238.length y238 := (by rw [hA21]; exact hr21); rw [← hy21, ← hA21, ← hc21] at hcut21; have HR241 := Aside0.mk hr21; have HC241 := am (show y238.length ≤ c21 from by rw [hy21, hc21]; exact Nat.sub_le_sub_right (Nat.le_trans (by omega) hroom21) _); clear hr21 hC21 hroom21 hi021 hsz21 hc21; have KY21 := Aside0.mk hy21; have KA21 := Aside0.mk hA21; clear hy21 hA21; replace q21 := eq_true q21) | ((with_reducible refine gate_builtin (b := .append) (xs := #[.tmp 29, .tmp 36]) rfl ?_); at_builtin; refine Kd.R_append_rows (Kd.int .u8) (w0 := w) w.heap.size rfl (.tmp 29) (.tmp 36) 22 5 (.int .u8 0) 1 rfl Try.underlying22 info5 rfl (by decide) (by omega) v236 y235 y238 _ _ _ (fun _ => True) (fun _ => False) rfl rfl ?aO ?aR (fun _ _ h => h) (fun _ h => h.elim) ?aF ?aB ?aS ?aL ?_; (case aR => exact zC (Kd.C_below HR241.out HB.out)); (case aB => exact (zL HB.out)); (case aF => exact (fun _ _ => trivial)); (case aO => exact (zR HO237.out)); (case aS => exact (below_size (zL HB.out))); (case aL => have := LMc9.out; omega); intro v243 w22 ho hb hg hat; rw [← Ny242.out] at ho; have n0_ := am (hb); have n1_ := am (ho); clear HB HO237; have HB := n0_; have HO244 := n1_; clear n0_ n1_; clear ho hb hg hat; have q23 : ((ji10) : Int) ≤ ((l0.length : Int) : Int) := of_decide_eq_true (by first | (with_reducible assumption) | assumption); obtain ⟨i023, hi023, _, hsz23, _⟩ := info_parts info5; have hroom23 : l0.length ≤ c0 := HC0.out; have hC23 : Kd.C (Kd.int .u8) _ A0 l0.length l0 := HR0.out; have q023 : (0 : Int) ≤ ((ji10) : Int) := of_decide_eq_true (by first | (with_reducible assumption) | assumption); have hcut23 := cut_from (P := Try.prog) 22 5 .i64 Try.underlying22 hi023 1 hsz23 A0 l0.length c0 (ji10) q023 q23; have hr23 := Kd.C_drop (m := ((ji10) : Int).toNat) (c := c0) hC23 (by omega) hroom23; obtain ⟨A23, hA23⟩ : ∃ A1, A1 = (if c0 = ((ji10) : Int).toNat then A0 else (A0 : Option Addr).map (·.add (((ji10) : Int).toNat * 1))) := ⟨_, rfl⟩; obtain ⟨c23, hc23⟩ : ∃ c1, c1 = c0 - ((ji10) : Int).toNat := ⟨_, rfl⟩; have hy23 : y245.length = l0.length - ((ji10) : Int).toNat := (by rw [Ny245.out, List.length_drop] <;> omega); rw [show (l0).drop ((ji10) : Int).toNat = y245 from Ny245.out.symm] at hr23; replace hr23 : Kd.C (Kd.int .u8) _ A23 y245.length y245 := (by rw [hA23]; exact hr23); rw [← hy23, ← hA23, ← hc23] at hcut23; have HR248 := Aside0.mk hr23; have HC248 := am (show y245.length ≤ c23 from by rw [hy23, hc23]; exact Nat.sub_le_sub_right hroom23 _); clear hr23 hC23 hroom23 hi023 hsz23 hc23; have KY23 := Aside0.mk hy23; have KA23 := Aside0.mk hA23; clear hy23 hA23; replace q23 := eq_true q23; obtain ⟨Ao24, co24, eo24⟩ := Kd.R_slice HO244.out; subst eo24) | (go_at_call 37; (with_reducible refine (clusterlocksref01_Checksum.calls k _ _ y242 t249 _ ?side1 ?side2 A13.out).mono ?_); (case side1 => exact zC (Kd.R_reads' HO244.out).2.2); (case side2 => exact (Kd.R_reads' HO244.out).2.1); rintro e w' ⟨rfl, ⟨nd, rfl⟩⟩; (try first | exact ⟨rfl, _, World.drewN_drewN _ _ _⟩ | exact ⟨rfl, _, Eq.trans (World.drewN_drewN _ _ _) (congrArg (World.drewN _) (Nat.add_assoc _ _ _))⟩); have p250 : 0 ≤ (0 : Int) := (by omega); have q250 : 0 < (y245.length : Int) := of_decide_eq_true (by first | (with_reducible assumption) | assumption); obtain ⟨ad250, e250, hx250_0⟩ := Kd.at_int HR248.out 0 p250 q250; cases e250; have qi250 : (0 < y245.length) = True := eq_true (by omega); (try rw [show ((0 : Int)).toNat = 0 from rfl] at hx250_0); (try rw [Addr.add_zero'] at hx250_0); replace hx250_0 := (HB.out.cell (World.block_lt_of_cell? w _ hx250_0)).trans hx250_0; replace p250 := eq_true p250; replace q250 := eq_true q250; have p251 : 0 ≤ (1 : Int) := (by omega); have q251 : 1 < (y245.length : Int) := of_decide_eq_true (by first | (with_reducible assumption) | assumption); obtain ⟨ad251, e251, hx251_0⟩ := Kd.at_int HR248.out 1 p251 q251; obtain rfl : ad250 = ad251 := (by injection e251); (try simp only [show (1 : Int).toNat = 1 from rfl, Nat.reduceMul, Nat.reduceEqDiff, Go.Addr.add, ↓reduceIte] at hx251_0); have qi251 : (1 < y245.length) = True := eq_true (by omega); (try rw [show ((1 : Int)).toNat = 1 from rfl] at hx251_0); replace hx251_0 := (HB.out.cell (World.block_lt_of_cell? w _ hx251_0)).trans hx251_0; replace p251 := eq_true p251; replace q251 := eq_true q251; have p252 : 0 ≤ (2 : Int) := (by omega); have q252 : 2 < (y245.length : Int) := of_decide_eq_true (by first | (with_reducible assumption) | assumption); obtain ⟨ad252, e252, hx252_0⟩ := Kd.at_int HR248.out 2 p252 q252; obtain rfl : ad250 = ad252 := (by injection e252); (try simp only [show (2 : Int).toNat = 2 from rfl, Nat.reduceMul, Nat.reduceEqDiff, Go.Addr.add, ↓reduceIte] at hx252_0); have qi252 : (2 < y245.length) = True := eq_true (by omega); (try rw [show ((2 : Int)).toNat = 2 from rfl] at hx252_0); replace hx252_0 := (HB.out.cell (World.block_lt_of_cell? w _ hx252_0)).trans hx252_0; replace p252 := eq_true p252; replace q252 := eq_true q252; have p253 : 0 ≤ (3 : Int) := (by omega); have q253 : 3 < (y245.length : Int) := of_decide_eq_true (by first | (with_reducible assumption) | assumption); obtain ⟨ad253, e253, hx253_0⟩ := Kd.at_int HR248.out 3 p253 q253; obtain rfl : ad250 = ad253 := (by injection e253); (try simp only [show (3 : Int).toNat = 3 from rfl, Nat.reduceMul, Nat.reduceEqDiff, Go.Addr.add, ↓reduceIte] at hx253_0); have qi253 : (3 < y245.length) = True := eq_true (by omega); (try rw [show ((3 : Int)).toNat = 3 from rfl] at hx253_0); replace hx253_0 := (HB.out.cell (World.block_lt_of_cell? w _ hx253_0)).trans hx253_0; replace p253 := eq_true p253; replace q253 := eq_true q253)))
              go_ret3
              exact ⟨_, by first | rfl | (simp [errW_none, errW_some] <;> rfl) | (simp only [← hji10]; first | rfl | (simp [errW_none, errW_some] <;> rfl)) | (simp [*, errW_none, errW_some] <;> rfl), by exact zR HO244.out, zL HB.out⟩
             ·rw [if_neg c18] at H
              have c18b0 : (t249 == (Go.bits .or .u32 (Go.bits .or .u32 (Go.bits .or .u32 ((((rd y245 0) % 4294967296) * 16777216) % 4294967296) ((((rd y245 1) % 4294967296) * 65536) % 4294967296)) ((((rd y245 2) % 4294967296) * 256) % 4294967296)) ((rd y245 3) % 4294967296))) = false := beq_eq_false_iff_ne.mpr c18
              have c18b1 : (t249 != (Go.bits .or .u32 (Go.bits .or .u32 (Go.bits .or .u32 ((((rd y245 0) % 4294967296) * 16777216) % 4294967296) ((((rd y245 1) % 4294967296) * 65536) % 4294967296)) ((((rd y245 2) % 4294967296) * 256) % 4294967296)) ((rd y245 3) % 4294967296))) = true := bne_iff_ne.mpr c18
              (try (have c18b2 : (t249 == (Go.bits .or .u32 (Go.bits .or .u32 (Go.bits .or .u32 (IntKind.u32.wrap ((IntKind.u32.wrap (rd y245 0)) * 16777216)) (IntKind.u32.wrap ((IntKind.u32.wrap (rd y245 1)) * 65536))) (IntKind.u32.wrap ((IntKind.u32.wrap (rd y245 2)) * 256))) (IntKind.u32.wrap (rd y245 3)))) = false := beq_eq_false_iff_ne.mpr (show ¬ (t249 = (Go.bits .or .u32 (Go.bits .or .u32 (Go.bits .or .u32 (IntKind.u32.wrap ((IntKind.u32.wrap (rd y245 0)) * 16777216)) (IntKind.u32.wrap ((IntKind.u32.wrap (rd y245 1)) * 65536))) (IntKind.u32.wrap ((IntKind.u32.wrap (rd y245 2)) * 256))) (IntKind.u32.wrap (rd y245 3)))) from by simpa only [Xw.u32_w, Xw.u8_w] using c18)))
              (try (have c18b3 : (t249 != (Go.bits .or .u32 (Go.bits .or .u32 (Go.bits .or .u32 (IntKind.u32.wrap ((IntKind.u32.wrap (rd y245 0)) * 16777216)) (IntKind.u32.wrap ((IntKind.u32.wrap (rd y245 1)) * 65536))) (IntKind.u32.wrap ((IntKind.u32.wrap (rd y245 2)) * 256))) (IntKind.u32.wrap (rd y245 3)))) = true := bne_iff_ne.mpr (show ¬ (t249 = (Go.bits .or .u32 (Go.bits .or .u32 (Go.bits .or .u32 (IntKind.u32.wrap ((IntKind.u32.wrap (rd y245 0)) * 16777216)) (IntKind.u32.wrap ((IntKind.u32.wrap (rd y245 1)) * 65536))) (IntKind.u32.wrap ((IntKind.u32.wrap (rd y245 2)) * 256))) (IntKind.u32.wrap (rd y245 3)))) from by simpa only [Xw.u32_w, Xw.u8_w] using c18)))
              simp only [Option.some.injEq, Prod.mk.injEq] at H
              obtain ⟨rfl, rfl, rfl⟩ := H
              go_enter Try.func29, Try.ntmps29
              go_wp2_with (first | (go_at_call 30; (with_reducible refine (clusterlocksref01_Uint.calls k _ _ l0 t232 t233 t234 _ ?side1 ?side2 A2.out).mono ?_); (case side1 => exact zC HR0.out); (case side2 => exact HC0.out); rintro e w' ⟨rfl, ⟨nd, rfl⟩⟩; (try first | exact ⟨rfl, _, World.drewN_drewN _ _ _⟩ | exact ⟨rfl, _, Eq.trans (World.drewN_drewN _ _ _) (congrArg (World.drewN _) (Nat.add_assoc _ _ _))⟩)) | ((with_reducible refine gate_dst (N := 29) rfl ?_); refine Kd.R_lit (Kd.int .u8) _ 5 ?hg (N := 29) ?hd (xs := ([] : List Int)) (inner := []) (ok := fun _ => True) (okp := fun _ => True) ?hr ?hp (fun _ hk => hk) trivial (Below.refl _ _) (Nat.le_refl _) (by simp) ?_; (case hd => rfl); (case hg => rfl); (case hr => first | (go_simp; done) | (go_simp; rfl)); (case hp => exact (Reps.none _ _)); intro v236 w25 ho26 hb hg_ hnew_; clear hg_ hnew_; (first | rw [← Ny235.out] at ho26 | (simp only [Int.reduceToNat] at ho26; rw [← Ny235.out] at ho26)); have n0_ := am (Kd.R_lower ho26 (below_size (zL HB.out))); have n1_ := am (below_step (zL HB.out) hb); clear HB; have HO237 := n0_; have HB := n1_; clear n0_ n1_; clear hb ho26; have q27 : ((ji10) : Int) ≤ ((l0.length : Int) : Int) := of_decide_eq_true (by first | (with_reducible assumption) | assumption); obtain ⟨i027, hi027, _, hsz27, _⟩ := info_parts info5; have hroom27 : l0.length ≤ c0 := HC0.out; have hC27 : Kd.C (Kd.int .u8) _ A0 l0.length l0 := HR0.out; have ql27 : (t233 : Int) ≤ ((ji10) : Int) := of_decide_eq_true (by first | (with_reducible assumption) | assumption); have q027 : (0 : Int) ≤ (t233 : Int) := of_decide_eq_true (by first | (with_reducible assumption) | assumption); have hcut27 := cut_mid (P := Try.prog) 22 5 .i64 .i64 Try.underlying22 hi027 1 hsz27 A0 l0.length c0 t233 (ji10) q027 ql27 q27 hroom27; have hr27 := Kd.C_mid (lo := (t233 : Int).toNat) (hi := ((ji10) : Int).toNat) (c := c0) hC27 (by omega) (by omega) hroom27; obtain ⟨A27, hA27⟩ : ∃ A1, A1 = (if c0 = (t233 : Int).toNat then A0 else (A0 : Option Addr).map (·.add ((t233 : Int).toNat * 1))) := ⟨_, rfl⟩; obtain ⟨c27, hc27⟩ : ∃ c1, c1 = c0 - (t233 : Int).toNat := ⟨_, rfl⟩; have hy27 : y238.length = ((ji10) : Int).toNat - (t233 : Int).toNat := (by rw [Ny238.out, List.length_drop, List.length_take] <;> omega); rw [show ((l0).take ((ji10) : Int).toNat).drop (t233 : Int).toNat = y238 from Ny238.out.symm] at hr27; replace hr27 : Kd.C (Kd.int .u8) _ A27 y238.length y238 := (by rw [hA27]; exact hr27); rw [← hy27, ← hA27, ← hc27] at hcut27; have HR241 := Aside0.mk hr27; have HC241 := am (show y238.length ≤ c27 from by rw [hy27, hc27]; exact Nat.sub_le_sub_right (Nat.le_trans (by omega) hroom27) _); clear hr27 hC27 hroom27 hi027 hsz27 hc27; have KY27 := Aside0.mk hy27; have KA27 := Aside0.mk hA27; clear hy27 hA27; replace q27 := eq_true q27) | ((with_reducible refine gate_builtin (b := .append) (xs := #[.tmp 29, .tmp 36]) rfl ?_); at_builtin; refine Kd.R_append_rows (Kd.int .u8) (w0 := w) w.heap.size rfl (.tmp 29) (.tmp 36) 22 5 (.int .u8 0) 1 rfl Try.underlying22 info5 rfl (by decide) (by omega) v236 y235 y238 _ _ _ (fun _ => True) (fun _ => False) rfl rfl ?aO ?aR (fun _ _ h => h) (fun _ h => h.elim) ?aF ?aB ?aS ?aL ?_; (case aR => exact zC (Kd.C_below HR241.out HB.out)); (case aB => exact (zL HB.out)); (case aF => exact (fun _ _ => trivial)); (case aO => exact (zR HO237.out)); (case aS => exact (below_size (zL HB.out))); (case aL => have := LMc9.out; omega); intro v243 w28 ho hb hg hat; rw [← Ny242.out] at ho; have n0_ := am (hb); have n1_ := am (ho); clear HB HO237; have HB := n0_; have HO244 := n1_; clear n0_ n1_; clear ho hb hg hat; have q29 : ((ji10) : Int) ≤ ((l0.length : Int) : Int) := of_decide_eq_true (by first | (with_reducible assumption) | assumption); obtain ⟨i029, hi029, _, hsz29, _⟩ := info_parts info5; have hroom29 : l0.length ≤ c0 := HC0.out; have hC29 : Kd.C (Kd.int .u8) _ A0 l0.length l0 := HR0.out; have q029 : (0 : Int) ≤ ((ji10) : Int) := of_decide_eq_true (by first | (with_reducible assumption) | assumption); have hcut29 := cut_from (P := Try.prog) 22 5 .i64 Try.underlying22 hi029 1 hsz29 A0 l0.length c0 (ji10) q029 q29; have hr29 := Kd.C_drop (m := ((ji10) : Int).toNat) (c := c0) hC29 (by omega) hroom29; obtain ⟨A29, hA29⟩ : ∃ A1, A1 = (if c0 = ((ji10) : Int).toNat then A0 else (A0 : Option Addr).map (·.add (((ji10) : Int).toNat * 1))) := ⟨_, rfl⟩; obtain ⟨c29, hc29⟩ : ∃ c1, c1 = c0 - ((ji10) : Int).toNat := ⟨_, rfl⟩; have hy29 : y245.length = l0.length - ((ji10) : Int).toNat := (by rw [Ny245.out, List.length_drop] <;> omega); rw [show (l0).drop ((ji10) : Int).toNat = y245 from Ny245.out.symm] at hr29; replace hr29 : Kd.C (Kd.int .u8) _ A29 y245.length y245 := (by rw [hA29]; exact hr29); rw [← hy29, ← hA29, ← hc29] at hcut29; have HR248 := Aside0.mk hr29; have HC248 := am (show y245.length ≤ c29 from by rw [hy29, hc29]; exact Nat.sub_le_sub_right hroom29 _); clear hr29 hC29 hroom29 hi029 hsz29 hc29; have KY29 := Aside0.mk hy29; have KA29 := Aside0.mk hA29; clear hy29 hA29; replace q29 := eq_true q29; obtain ⟨Ao30, co30, eo30⟩ := Kd.R_slice HO244.out; subst eo30) | (go_at_call 37; (with_reducible refine (clusterlocksref01_Checksum.calls k _ _ y242 t249 _ ?side1 ?side2 A13.out).mono ?_); (case side1 => exact zC (Kd.R_reads' HO244.out).2.2); (case side2 => exact (Kd.R_reads' HO244.out).2.1); rintro e w' ⟨rfl, ⟨nd, rfl⟩⟩; (try first | exact ⟨rfl, _, World.drewN_drewN _ _ _⟩ | exact ⟨rfl, _, Eq.trans (World.drewN_drewN _ _ _) (congrArg (World.drewN _) (Nat.add_assoc _ _ _))⟩); have p250 : 0 ≤ (0 : Int) := (by omega); have q250 : 0 < (y245.length : Int) := of_decide_eq_true (by first | (with_reducible assumption) | assumption); obtain ⟨ad250, e250, hx250_0⟩ := Kd.at_int HR248.out 0 p250 q250; cases e250; have qi250 : (0 < y245.length) = True := eq_true (by omega); (try rw [show ((0 : Int)).toNat = 0 from rfl] at hx250_0); (try rw [Addr.add_zero'] at hx250_0); replace hx250_0 := (HB.out.cell (World.block_lt_of_cell? w _ hx250_0)).trans hx250_0; replace p250 := eq_true p250; replace q250 := eq_true q250; have p251 : 0 ≤ (1 : Int) := (by omega); have q251 : 1 < (y245.length : Int) := of_decide_eq_true (by first | (with_reducible assumption) | assumption); obtain ⟨ad251, e251, hx251_0⟩ := Kd.at_int HR248.out 1 p251 q251; obtain rfl : ad250 = ad251 := (by injection e251); (try simp only [show (1 : Int).toNat = 1 from rfl, Nat.reduceMul, Nat.reduceEqDiff, Go.Addr.add, ↓reduceIte] at hx251_0); have qi251 : (1 < y245.length) = True := eq_true (by omega); (try rw [show ((1 : Int)).toNat = 1 from rfl] at hx251_0); replace hx251_0 := (HB.out.cell (World.block_lt_of_cell? w _ hx251_0)).trans hx251_0; replace p251 := eq_true p251; replace q251 := eq_true q251; have p252 : 0 ≤ (2 : Int) := (by omega); have q252 : 2 < (y245.length : Int) := of_decide_eq_true (by first | (with_reducible assumption) | assumption); obtain ⟨ad252, e252, hx252_0⟩ := Kd.at_int HR248.out 2 p252 q252; obtain rfl : ad250 = ad252 := (by injection e252); (try simp only [show (2 : Int).toNat = 2 from rfl, Nat.reduceMul, Nat.reduceEqDiff, Go.Addr.add, ↓reduceIte] at hx252_0); have qi252 : (2 < y245.length) = True := eq_true (by omega); (try rw [show ((2 : Int)).toNat = 2 from rfl] at hx252_0); replace hx252_0 := (HB.out.cell (World.block_lt_of_cell? w _ hx252_0)).trans hx252_0; replace p252 := eq_true p252; replace q252 := eq_true q252; have p253 : 0 ≤ (3 : Int) := (by omega); have q253 : 3 < (y245.length : Int) := of_decide_eq_true (by first | (with_reducible assumption) | assumption); obtain ⟨ad253, e253, hx253_0⟩ := Kd.at_int HR248.out 3 p253 q253; obtain rfl : ad250 = ad253 := (by injection e253); (try simp only [show (3 : Int).toNat = 3 from rfl, Nat.reduceMul, Nat.reduceEqDiff, Go.Addr.add, ↓reduceIte] at hx253_0); have qi253 : (3 < y245.length) = True := eq_true (by omega); (try rw [show ((3 : Int)).toNat = 3 from rfl] at hx253_0); replace hx253_0 := (HB.out.cell (World.block_lt_of_cell? w _ hx253_0)).trans hx253_0; replace p253 := eq_true p253; replace q253 := eq_true q253))
              repeat (go_quiet (first | (go_at_call 30; (with_reducible refine (clusterlocksref01_Uint.calls k _ _ l0 t232 t233 t234 _ ?side1 ?side2 A2.out).mono ?_); (case side1 => exact zC HR0.out); (case side2 => exact HC0.out); rintro e w' ⟨rfl, ⟨nd, rfl⟩⟩; (try first | exact ⟨rfl, _, World.drewN_drewN _ _ _⟩ | exact ⟨rfl, _, Eq.trans (World.drewN_drewN _ _ _) (congrArg (World.drewN _) (Nat.add_assoc _ _ _))⟩)) | ((with_reducible refine gate_dst (N := 29) rfl ?_); refine Kd.R_lit (Kd.int .u8) _ 5 ?hg (N := 29) ?hd (xs := ([] : List Int)) (inner := []) (ok := fun _ => True) (okp := fun _ => True) ?hr ?hp (fun _ hk => hk) trivial (Below.refl _ _) (Nat.le_refl _) (by simp) ?_; (case hd => rfl); (case hg => rfl); (case hr => first | (go_simp; done) | (go_simp; rfl)); (case hp => exact (Reps.none _ _)); intro v236 w25 ho26 hb hg_ hnew_; clear hg_ hnew_; (first | rw [← Ny235.out] at ho26 | (simp only [Int.reduceToNat] at ho26; rw [← Ny235.out] at ho26)); have n0_ := am (Kd.R_lower ho26 (below_size (zL HB.out))); have n1_ := am (below_step (zL HB.out) hb); clear HB; have HO237 := n0_; have HB := n1_; clear n0_ n1_; clear hb ho26; have q27 : ((ji10) : Int) ≤ ((l0.length : Int) : Int) := of_decide_eq_true (by first | (with_reducible assumption) | assumption); obtain ⟨i027, hi027, _, hsz27, _⟩ := info_parts info5; have hroom27 : l0.length ≤ c0 := HC0.out; have hC27 : Kd.C (Kd.int .u8) _ A0 l0.length l0 := HR0.out; have ql27 : (t233 : Int) ≤ ((ji10) : Int) := of_decide_eq_true (by first | (with_reducible assumption) | assumption); have q027 : (0 : Int) ≤ (t233 : Int) := of_decide_eq_true (by first | (with_reducible assumption) | assumption); have hcut27 := cut_mid (P := Try.prog) 22 5 .i64 .i64 Try.underlying22 hi027 1 hsz27 A0 l0.length c0 t233 (ji10) q027 ql27 q27 hroom27; have hr27 := Kd.C_mid (lo := (t233 : Int).toNat) (hi := ((ji10) : Int).toNat) (c := c0) hC27 (by omega) (by omega) hroom27; obtain ⟨A27, hA27⟩ : ∃ A1, A1 = (if c0 = (t233 : Int).toNat then A0 else (A0 : Option Addr).map (·.add ((t233 : Int).toNat * 1))) := ⟨_, rfl⟩; obtain ⟨c27, hc27⟩ : ∃ c1, c1 = c0 - (t233 : Int).toNat := ⟨_, rfl⟩; have hy27 : y238.length = ((ji10) : Int).toNat - (t233 : Int).toNat := (by rw [Ny238.out, List.length_drop, List.length_take] <;> omega); rw [show ((l0).take ((ji10) : Int).toNat).drop (t233 : Int).toNat = y238 from Ny238.out.symm] at hr27; replace hr27 : Kd.C (Kd.int .u8) _ A27 y238.length y238 := (by rw [hA27]; exact hr27); rw [← hy27, ← hA27, ← hc27] at hcut27; have HR241 := Aside0.mk hr27; have HC241 := am (show y238.length ≤ c27 from by rw [hy27, hc27]; exact Nat.sub_le_sub_right (Nat.le_trans (by omega) hroom27) _); clear hr27 hC27 hroom27 hi027 hsz27 hc27; have KY27 := Aside0.mk hy27; have KA27 := Aside0.mk hA27; clear hy27 hA27; replace q27 := eq_true q27) | ((with_reducible refine gate_builtin (b := .append) (xs := #[.tmp 29, .tmp 36]) rfl ?_); at_builtin; refine Kd.R_append_rows (Kd.int .u8) (w0 := w) w.heap.size rfl (.tmp 29) (.tmp 36) 22 5 (.int .u8 0) 1 rfl Try.underlying22 info5 rfl (by decide) (by omega) v236 y235 y238 _ _ _ (fun _ => True) (fun _ => False) rfl rfl ?aO ?aR (fun _ _ h => h) (fun _ h => h.elim) ?aF ?aB ?aS ?aL ?_; (case aR => exact zC (Kd.C_below HR241.out HB.out)); (case aB => exact (zL HB.out)); (case aF => exact (fun _ _ => trivial)); (case aO => exact (zR HO237.out)); (case aS => exact (below_size (zL HB.out))); (case aL => have := LMc9.out; omega); intro v243 w28 ho hb hg hat; rw [← Ny242.out] at ho; have n0_ := am (hb); have n1_ := am (ho); clear HB HO237; have HB := n0_; have HO244 := n1_; clear n0_ n1_; clear ho hb hg hat; have q29 : ((ji10) : Int) ≤ ((l0.length : Int) : Int) := of_decide_eq_true (by first | (with_reducible assumption) | assumption); obtain ⟨i029, hi029, _, hsz29, _⟩ := info_parts info5; have hroom29 : l0.length ≤ c0 := HC0.out; have hC29 : Kd.C (Kd.int .u8) _ A0 l0.length l0 := HR0.out; have q029 : (0 : Int) ≤ ((ji10) : Int) := of_decide_eq_true (by first | (with_reducible assumption) | assumption); have hcut29 := cut_from (P := Try.prog) 22 5 .i64 Try.underlying22 hi029 1 hsz29 A0 l0.length c0 (ji10) q029 q29; have hr29 := Kd.C_drop (m := ((ji10) : Int).toNat) (c := c0) hC29 (by omega) hroom29; obtain ⟨A29, hA29⟩ : ∃ A1, A1 = (if c0 = ((ji10) : Int).toNat then A0 else (A0 : Option Addr).map (·.add (((ji10) : Int).toNat * 1))) := ⟨_, rfl⟩; obtain ⟨c29, hc29⟩ : ∃ c1, c1 = c0 - ((ji10) : Int).toNat := ⟨_, rfl⟩; have hy29 : y245.length = l0.length - ((ji10) : Int).toNat := (by rw [Ny245.out, List.length_drop] <;> omega); rw [show (l0).drop ((ji10) : Int).toNat = y245 from Ny245.out.symm] at hr29; replace hr29 : Kd.C (Kd.int .u8) _ A29 y245.length y245 := (by rw [hA29]; exact hr29); rw [← hy29, ← hA29, ← hc29] at hcut29; have HR248 := Aside0.mk hr29; have HC248 := am (show y245.length ≤ c29 from by rw [hy29, hc29]; exact Nat.sub_le_sub_right hroom29 _); clear hr29 hC29 hroom29 hi029 hsz29 hc29; have KY29 := Aside0.mk hy29; have KA29 := Aside0.mk hA29; clear hy29 hA29; replace q29 := eq_true q29; obtain ⟨Ao30, co30, eo30⟩ := Kd.R_slice HO244.out; subst eo30) | (go_at_call 37; (with_reducible refine (clusterlocksref01_Checksum.calls k _ _ y242 t249 _ ?side1 ?side2 A13.out).mono ?_); (case side1 => exact zC (Kd.R_reads' HO244.out).2.2); (case side2 => exact (Kd.R_reads' HO244.out).2.1); rintro e w' ⟨rfl, ⟨nd, rfl⟩⟩; (try first | exact ⟨rfl, _, World.drewN_drewN _ _ _⟩ | exact ⟨rfl, _, Eq.trans (World.drewN_drewN _ _ _) (congrArg (World.drewN _) (Nat.add_assoc _ _ _))⟩); have p250 : 0 ≤ (0 : Int) := (by omega); have q250 : 0 < (y245.length : Int) := of_decide_eq_true (by first | (with_reducible assumption) | assumption); obtain ⟨ad250, e250, hx250_0⟩ := Kd.at_int HR248.out 0 p250 q250; cases e250; have qi250 : (0 < y245.length) = True := eq_true (by omega); (try rw [show ((0 : Int)).toNat = 0 from rfl] at hx250_0); (try rw [Addr.add_zero'] at hx250_0); replace hx250_0 := (HB.out.cell (World.block_lt_of_cell? w _ hx250_0)).trans hx250_0; replace p250 := eq_true p250; replace q250 := eq_true q250; have p251 : 0 ≤ (1 : Int) := (by omega); have q251 : 1 < (y245.length : Int) := of_decide_eq_true (by first | (with_reducible assumption) | assumption); obtain ⟨ad251, e251, hx251_0⟩ := Kd.at_int HR248.out 1 p251 q251; obtain rfl : ad250 = ad251 := (by injection e251); (try simp only [show (1 : Int).toNat = 1 from rfl, Nat.reduceMul, Nat.reduceEqDiff, Go.Addr.add, ↓reduceIte] at hx251_0); have qi251 : (1 < y245.length) = True := eq_true (by omega); (try rw [show ((1 : Int)).toNat = 1 from rfl] at hx251_0); replace hx251_0 := (HB.out.cell (World.block_lt_of_cell? w _ hx251_0)).trans hx251_0; replace p251 := eq_true p251; replace q251 := eq_true q251; have p252 : 0 ≤ (2 : Int) := (by omega); have q252 : 2 < (y245.length : Int) := of_decide_eq_true (by first | (with_reducible assumption) | assumption); obtain ⟨ad252, e252, hx252_0⟩ := Kd.at_int HR248.out 2 p252 q252; obtain rfl : ad250 = ad252 := (by injection e252); (try simp only [show (2 : Int).toNat = 2 from rfl, Nat.reduceMul, Nat.reduceEqDiff, Go.Addr.add, ↓reduceIte] at hx252_0); have qi252 : (2 < y245.length) = True := eq_true (by omega); (try rw [show ((2 : Int)).toNat = 2 from rfl] at hx252_0); replace hx252_0 := (HB.out.cell (World.block_lt_of_cell? w _ hx252_0)).trans hx252_0; replace p252 := eq_true p252; replace q252 := eq_true q252; have p253 : 0 ≤ (3 : Int) := (by omega); have q253 : 3 < (y245.length : Int) := of_decide_eq_true (by first | (with_reducible assumption) | assumption); obtain ⟨ad253, e253, hx253_0⟩ := Kd.at_int HR248.out 3 p253 q253; obtain rfl : ad250 = ad253 := (by injection e253); (try simp only [show (3 : Int).toNat = 3 from rfl, Nat.reduceMul, Nat.reduceEqDiff, Go.Addr.add, ↓reduceIte] at hx253_0); have qi253 : (3 < y245.length) = True := eq_true (by omega); (try rw [show ((3 : Int)).toNat = 3 from rfl] at hx253_0); replace hx253_0 := (HB.out.cell (World.block_lt_of_cell? w _ hx253_0)).trans hx253_0; replace p253 := eq_true p253; replace q253 := eq_true q253)); try go_wp2_with (first | (go_at_call 30; (with_reducible refine (clusterlocksref01_Uint.calls k _ _ l0 t232 t233 t234 _ ?side1 ?side2 A2.out).mono ?_); (case side1 => exact zC HR0.out); (case side2 => exact HC0.out); rintro e w' ⟨rfl, ⟨nd, rfl⟩⟩; (try first | exact ⟨rfl, _, World.drewN_drewN _ _ _⟩ | exact ⟨rfl, _, Eq.trans (World.drewN_drewN _ _ _) (congrArg (World.drewN _) (Nat.add_assoc _ _ _))⟩)) | ((with_reducible refine gate_dst (N := 29) rfl ?_); refine Kd.R_lit (Kd.int .u8) _ 5 ?hg (N := 29) ?hd (xs := ([] : List Int)) (inner := []) (ok := fun _ => True) (okp := fun _ => True) ?hr ?hp (fun _ hk => hk) trivial (Below.refl _ _) (Nat.le_refl _) (by simp) ?_; (case hd => rfl); (case hg => rfl); (case hr => first | (go_simp; done) | (go_simp; rfl)); (case hp => exact (Reps.none _ _)); intro v236 w25 ho26 hb hg_ hnew_; clear hg_ hnew_; (first | rw [← Ny235.out] at ho26 | (simp only [Int.reduceToNat] at ho26; rw [← Ny235.out] at ho26)); have n0_ := am (Kd.R_lower ho26 (below_size (zL HB.out))); have n1_ := am (below_step (zL HB.out) hb); clear HB; have HO237 := n0_; have HB := n1_; clear n0_ n1_; clear hb ho26; have q27 : ((ji10) : Int) ≤ ((l0.length : Int) : Int) := of_decide_eq_true (by first | (with_reducible assumption) | assumption); obtain ⟨i027, hi027, _, hsz27, _⟩ := info_parts info5; have hroom27 : l0.length ≤ c0 := HC0.out; have hC27 : Kd.C (Kd.int .u8) _ A0 l0.length l0 := HR0.out; have ql27 : (t233 : Int) ≤ ((ji10) : Int) := of_decide_eq_true (by first | (with_reducible assumption) | assumption); have q027 : (0 : Int) ≤ (t233 : Int) := of_decide_eq_true (by first | (with_reducible assumption) | assumption); have hcut27 := cut_mid (P := Try.prog) 22 5 .i64 .i64 Try.underlying22 hi027 1 hsz27 A0 l0.length c0 t233 (ji10) q027 ql27 q27 hroom27; have hr27 := Kd.C_mid (lo := (t233 : Int).toNat) (hi := ((ji10) : Int).toNat) (c := c0) hC27 (by omega) (by omega) hroom27; obtain ⟨A27, hA27⟩ : ∃ A1, A1 = (if c0 = (t233 : Int).toNat then A0 else (A0 : Option Addr).map (·.add ((t233 : Int).toNat * 1))) := ⟨_, rfl⟩; obtain ⟨c27, hc27⟩ : ∃ c1, c1 = c0 - (t233 : Int).toNat := ⟨_, rfl⟩; have hy27 : y238.length = ((ji10) : Int).toNat - (t233 : Int).toNat := (by rw [Ny238.out, List.length_drop, List.length_take] <;> omega); rw [show ((l0).take ((ji10) : Int).toNat).drop (t233 : Int).toNat = y238 from Ny238.out.symm] at hr27; replace hr27 : Kd.C (Kd.int .u8) _ A27 y238.length y238 := (by rw [hA27]; exact hr27); rw [← hy27, ← hA27, ← hc27] at hcut27; have HR241 := Aside0.mk hr27; have HC241 := am (show y238.length ≤ c27 from by rw [hy27, hc27]; exact Nat.sub_le_sub_right (Nat.le_trans (by omega) hroom27) _); clear hr27 hC27 hroom27 hi027 hsz27 hc27; have KY27 := Aside0.mk hy27; have KA27 := Aside0.mk hA27; clear hy27 hA27; replace q27 := eq_true q27) | ((with_reducible refine gate_builtin (b := .append) (xs := #[.tmp 29, .tmp 36]) rfl ?_); at_builtin; refine Kd.R_append_rows (Kd.int .u8) (w0 := w) w.heap.size rfl (.tmp 29) (.tmp 36) 22 5 (.int .u8 0) 1 rfl Try.underlying22 info5 rfl (by decide) (by omega) v236 y235 y238 _ _ _ (fun _ => True) (fun _ => False) rfl rfl ?aO ?aR (fun _ _ h => h) (fun _ h => h.elim) ?aF ?aB ?aS ?aL ?_; (case aR => exact zC (Kd.C_below HR241.out HB.out)); (case aB => exact (zL HB.out)); (case aF => exact (fun _ _ => trivial)); (case aO => exact (zR HO237.out)); (case aS => exact (below_size (zL HB.out))); (case aL => have := LMc9.out; omega); intro v243 w28 ho hb hg hat; rw [← Ny242.out] at ho; have n0_ := am (hb); have n1_ := am (ho); clear HB HO237; have HB := n0_; have HO244 := n1_; clear n0_ n1_; clear ho hb hg hat; have q29 : ((ji10) : Int) ≤ ((l0.length : Int) : Int) := of_decide_eq_true (by first | (with_reducible assumption) | assumption); obtain ⟨i029, hi029, _, hsz29, _⟩ := info_parts info5; have hroom29 : l0.length ≤ c0 := HC0.out; have hC29 : Kd.C (Kd.int .u8) _ A0 l0.length l0 := HR0.out; have q029 : (0 : Int) ≤ ((ji10) : Int) := of_decide_eq_true (by first | (with_reducible assumption) | assumption); have hcut29 := cut_from (P := Try.prog) 22 5 .i64 Try.underlying22 hi029 1 hsz29 A0 l0.length c0 (ji10) q029 q29; have hr29 := Kd.C_drop (m := ((ji10) : Int).toNat) (c := c0) hC29 (by omega) hroom29; obtain ⟨A29, hA29⟩ : ∃ A1, A1 = (if c0 = ((ji10) : Int).toNat then A0 else (A0 : Option Addr).map (·.add (((ji10) : Int).toNat * 1))) := ⟨_, rfl⟩; obtain ⟨c29, hc29⟩ : ∃ c1, c1 = c0 - ((ji10) : Int).toNat := ⟨_, rfl⟩; have hy29 : y245.length = l0.length - ((ji10) : Int).toNat := (by rw [Ny245.out, List.length_drop] <;> omega); rw [show (l0).drop ((ji10) : Int).toNat = y245 from Ny245.out.symm] at hr29; replace hr29 : Kd.C (Kd.int .u8) _ A29 y245.length y245 := (by rw [hA29]; exact hr29); rw [← hy29, ← hA29, ← hc29] at hcut29; have HR248 := Aside0.mk hr29; have HC248 := am (show y245.length ≤ c29 from by rw [hy29, hc29]; exact Nat.sub_le_sub_right hroom29 _); clear hr29 hC29 hroom29 hi029 hsz29 hc29; have KY29 := Aside0.mk hy29; have KA29 := Aside0.mk hA29; clear hy29 hA29; replace q29 := eq_true q29; obtain ⟨Ao30, co30, eo30⟩ := Kd.R_slice HO244.out; subst eo30) | (go_at_call 37; (with_reducible refine (clusterlocksref01_Checksum.calls k _ _ y242 t249 _ ?side1 ?side2 A13.out).mono ?_); (case side1 => exact zC (Kd.R_reads' HO244.out).2.2); (case side2 => exact (Kd.R_reads' HO244.out).2.1); rintro e w' ⟨rfl, ⟨nd, rfl⟩⟩; (try first | exact ⟨rfl, _, World.drewN_drewN _ _ _⟩ | exact ⟨rfl, _, Eq.trans (World.drewN_drewN _ _ _) (congrArg (World.drewN _) (Nat.add_assoc _ _ _))⟩); have p250 : 0 ≤ (0 : Int) := (by omega); have q250 : 0 < (y245.length : Int) := of_decide_eq_true (by first | (with_reducible assumption) | assumption); obtain ⟨ad250, e250, hx250_0⟩ := Kd.at_int HR248.out 0 p250 q250; cases e250; have qi250 : (0 < y245.length) = True := eq_true (by omega); (try rw [show ((0 : Int)).toNat = 0 from rfl] at hx250_0); (try rw [Addr.add_zero'] at hx250_0); replace hx250_0 := (HB.out.cell (World.block_lt_of_cell? w _ hx250_0)).trans hx250_0; replace p250 := eq_true p250; replace q250 := eq_true q250; have p251 : 0 ≤ (1 : Int) := (by omega); have q251 : 1 < (y245.length : Int) := of_decide_eq_true (by first | (with_reducible assumption) | assumption); obtain ⟨ad251, e251, hx251_0⟩ := Kd.at_int HR248.out 1 p251 q251; obtain rfl : ad250 = ad251 := (by injection e251); (try simp only [show (1 : Int).toNat = 1 from rfl, Nat.reduceMul, Nat.reduceEqDiff, Go.Addr.add, ↓reduceIte] at hx251_0); have qi251 : (1 < y245.length) = True := eq_true (by omega); (try rw [show ((1 : Int)).toNat = 1 from rfl] at hx251_0); replace hx251_0 := (HB.out.cell (World.block_lt_of_cell? w _ hx251_0)).trans hx251_0; replace p251 := eq_true p251; replace q251 := eq_true q251; have p252 : 0 ≤ (2 : Int) := (by omega); have q252 : 2 < (y245.length : Int) := of_decide_eq_true (by first | (with_reducible assumption) | assumption); obtain ⟨ad252, e252, hx252_0⟩ := Kd.at_int HR248.out 2 p252 q252; obtain rfl : ad250 = ad252 := (by injection e252); (try simp only [show (2 : Int).toNat = 2 from rfl, Nat.reduceMul, Nat.reduceEqDiff, Go.Addr.add, ↓reduceIte] at hx252_0); have qi252 : (2 < y245.length) = True := eq_true (by omega); (try rw [show ((2 : Int)).toNat = 2 from rfl] at hx252_0); replace hx252_0 := (HB.out.cell (World.block_lt_of_cell? w _ hx252_0)).trans hx252_0; replace p252 := eq_true p252; replace q252 := eq_true q252; have p253 : 0 ≤ (3 : Int) := (by omega); have q253 : 3 < (y245.length : Int) := of_decide_eq_true (by first | (with_reducible assumption) | assumption); obtain ⟨ad253, e253, hx253_0⟩ := Kd.at_int HR248.out 3 p253 q253; obtain rfl : ad250 = ad253 := (by injection e253); (try simp only [show (3 : Int).toNat = 3 from rfl, Nat.reduceMul, Nat.reduceEqDiff, Go.Addr.add, ↓reduceIte] at hx253_0); have qi253 : (3 < y245.length) = True := eq_true (by omega); (try rw [show ((3 : Int)).toNat = 3 from rfl] at hx253_0); replace hx253_0 := (HB.out.cell (World.block_lt_of_cell? w _ hx253_0)).trans hx253_0; replace p253 := eq_true p253; replace q253 := eq_true q253)))
              go_ret3
              exact ⟨_, by first | rfl | (simp [errW_none, errW_some] <;> rfl) | (simp only [← hji10]; first | rfl | (simp [errW_none, errW_some] <;> rfl)) | (simp [*, errW_none, errW_some] <;> rfl), by first | exact Kd.R_nil _ _ _ _ _ | exact Kd.N_nil _ _ _ _ _ | exact Kd.V_nil _ _ _ _ _ | exact Kd.Q_nil _ _ _ _ _ | exact Kd.S_nil _ _ _ _ _, zL HB.out⟩
            ·rw [if_neg c17] at H
             exact absurd H (by simp)
           ·rw [if_neg c16] at H
            exact absurd H (by simp)
          ·rw [if_neg c15] at H
           exact absurd H (by simp)
         ·rw [if_neg c14] at H
          exact absurd H (by simp)
        ·rw [if_neg c11] at H
         exact absurd H (by simp)
       ·rw [if_neg c9] at H
        exact absurd H (by simp)
      ·rw [if_neg c8] at H
       exact absurd H (by simp)
     ·rw [if_neg c7] at H
      exact absurd H (by simp)
    ·rw [if_neg c6] at H
     exact absurd H (by simp)
 ·rw [if_neg c3] at H
  have c3b0 : (t234 == 0) = false := beq_eq_false_iff_ne.mpr c3
  have c3b1 : (t234 != 0) = true := bne_iff_ne.mpr c3
  simp only [Option.some.injEq, Prod.mk.injEq] at H
  obtain ⟨rfl, rfl, rfl⟩ := H
  go_enter Try.func29, Try.ntmps29
  go_wp2_with (first | (go_at_call 30; (with_reducible refine (clusterlocksref01_Uint.calls k _ _ l0 t232 t233 t234 _ ?side1 ?side2 A2.out).mono ?_); (case side1 => exact zC HR0.out); (case side2 => exact HC0.out); rintro e w' ⟨rfl, ⟨nd, rfl⟩⟩; (try first | exact ⟨rfl, _, World.drewN_drewN _ _ _⟩ | exact ⟨rfl, _, Eq.trans (World.drewN_drewN _ _ _) (congrArg (World.drewN _) (Nat.add_assoc _ _ _))⟩)))
  repeat (go_quiet (first | (go_at_call 30; (with_reducible refine (clusterlocksref01_Uint.calls k _ _ l0 t232 t233 t234 _ ?side1 ?side2 A2.out).mono ?_); (case side1 => exact zC HR0.out); (case side2 => exact HC0.out); rintro e w' ⟨rfl, ⟨nd, rfl⟩⟩; (try first | exact ⟨rfl, _, World.drewN_drewN _ _ _⟩ | exact ⟨rfl, _, Eq.trans (World.drewN_drewN _ _ _) (congrArg (World.drewN _) (Nat.add_assoc _ _ _))⟩))); try go_wp2_with (first | (go_at_call 30; (with_reducible refine (clusterlocksref01_Uint.calls k _ _ l0 t232 t233 t234 _ ?side1 ?side2 A2.out).mono ?_); (case side1 => exact zC HR0.out); (case side2 => exact HC0.out); rintro e w' ⟨rfl, ⟨nd, rfl⟩⟩; (try first | exact ⟨rfl, _, World.drewN_drewN _ _ _⟩ | exact ⟨rfl, _, Eq.trans (World.drewN_drewN _ _ _) (congrArg (World.drewN _) (Nat.add_assoc _ _ _))⟩))))
  go_ret3
  exact ⟨_, by first | rfl | (simp [errW_none, errW_some] <;> rfl) | (simp [*, errW_none, errW_some] <;> rfl), by first | exact Kd.R_nil _ _ _ _ _ | exact Kd.N_nil _ _ _ _ _ | exact Kd.V_nil _ _ _ _ _ | exact Kd.Q_nil _ _ _ _ _ | exact Kd.S_nil _ _ _ _ _, zL HB.out⟩

/-! ### clusterlocksref26_whole: function 22 -/
def clusterlocksref26_whole.j0 : Nat → List Int → Bool → Option (List Int × Int)
 | 0, _, _ => none
 | k + 1, x4, x22 => if x22 = true then (some (([] : List Int), 0)) else ((clusterlocksref01_Uint.f k x4).bind fun bt259 => (if bt259.2.2 = 0 then (if bt259.1 < 1 then (some (([] : List Int), 0)) else (if bt259.1 > 1073741824 then (some (([] : List Int), 0)) else (if (wrap64 ((x4.length : Int) - bt259.2.1)) > 512 then (some (([] : List Int), 0)) else (if 0 ≤ bt259.2.1 then (if bt259.2.1 ≤ (x4.length : Int) then ((some (x4.drop (bt259.2.1 : Int).toNat : List Int)).bind fun y262 => (if ([] : List Int).length + y262.length < 140737488355328 then (some ((([] : List Int) ++ y262), wrap64 (bt259.1))) else (none))) else (none)) else (none))))) else (some (([] : List Int), 0))))
def clusterlocksref26_whole.f (k : Nat) (l0 : List Int) : Option (List Int × Int) := (clusterlocksref01_Unframe.f k l0).bind fun bt254 => (if bt254.2.2 = 0 then (clusterlocksref26_whole.j0 k bt254.1 (bt254.2.1 != (l0.length : Int))) else (clusterlocksref26_whole.j0 k bt254.1 true))
theorem clusterlocksref26_whole.mono_l : ∀ k, (∀ y0 y1, LeO (clusterlocksref26_whole.j0 k y0 y1) (clusterlocksref26_whole.j0 (k + 1) y0 y1))
 | 0 => fun _ _ r h => by simp [clusterlocksref26_whole.j0] at h
 | k + 1 => by
  have ih0 := clusterlocksref26_whole.mono_l k
  ·intro y0 y1
   unfold clusterlocksref26_whole.j0
   repeat' first
   | (with_reducible exact ih0 _ _)
   | (with_reducible exact clusterlocksref01_Uint.mono _ _)
   | (with_reducible exact clusterlocksref01_Unframe.mono _ _)
   | (with_reducible exact LeO.refl _)
   | (with_reducible exact LeO.none _)
   | (with_reducible refine LeO.ite ?_ ?_)
   | (with_reducible refine LeO.bind ?_ (fun _ => ?_))
   | exact ih0 _ _
   | exact clusterlocksref01_Uint.mono _ _
   | exact clusterlocksref01_Unframe.mono _ _
   | exact LeO.none _
   | refine LeO.ite ?_ ?_
   | refine LeO.bind ?_ (fun _ => ?_)
theorem clusterlocksref26_whole.mono : ∀ a0 k, LeO (clusterlocksref26_whole.f k a0) (clusterlocksref26_whole.f (k + 1) a0) := by
 intro a0 k
 have ih0 := clusterlocksref26_whole.mono_l k
 unfold clusterlocksref26_whole.f
 repeat' first
   | (with_reducible exact ih0 _ _)
   | (with_reducible exact clusterlocksref01_Uint.mono _ _)
   | (with_reducible exact clusterlocksref01_Unframe.mono _ _)
   | (with_reducible exact LeO.refl _)
   | (with_reducible exact LeO.none _)
   | (with_reducible refine LeO.ite ?_ ?_)
   | (with_reducible refine LeO.bind ?_ (fun _ => ?_))
   | exact ih0 _ _
   | exact clusterlocksref01_Uint.mono _ _
   | exact clusterlocksref01_Unframe.mono _ _
   | exact LeO.none _
   | refine LeO.ite ?_ ?_
   | refine LeO.bind ?_ (fun _ => ?_)
set_option maxHeartbeats 8000000 in
set_option maxRecDepth 100000 in
theorem clusterlocksref26_whole.calls (k : Nat) (A0 : Option Addr) (c0 : Nat) (l0 : List Int) (r1 : List Int) (r2 : Int) (w : World) (hr0 : Kd.C (Kd.int .u8) w A0 l0.length l0) (hc0 : l0.length ≤ c0) (h : clusterlocksref26_whole.f k l0 = some (r1, r2)) :
  Calls Try.prog 22 #[.slice A0 l0.length c0] w fun e w' => ∃ v0_ : Value, e = .returned (.tuple #[v0_, .int .i64 r2]) ∧ Kd.R (Kd.int .u8) 5 w' w.heap.size (fun _ => True) v0_ r1 ∧ Below w.heap.size w w' := by
 have HR0 := Aside0.mk hr0
 have HC0 := Aside0.mk hc0
 clear hr0 hc0
 have HB := am (Below.refl w.heap.size w)
 have H : ((clusterlocksref01_Unframe.f k l0).bind fun bt254 => (if bt254.2.2 = 0 then (clusterlocksref26_whole.j0 k bt254.1 (bt254.2.1 != (l0.length : Int))) else (clusterlocksref26_whole.j0 k bt254.1 true))) = some (r1, r2) := h
 clear h
 replace H := Option.bind_eq_some_iff.mp H
 obtain ⟨⟨t254, t255, t256⟩, A20, H⟩ := H
 replace H : (if t256 = 0 then (clusterlocksref26_whole.j0 k t254 (t255 != (l0.length : Int))) else (clusterlocksref26_whole.j0 k t254 true)) = some (r1, r2) := H
 have A2 := Aside0.mk A20
 clear A20
 have HC3 := Aside0.mk H
 clear H
 go_enter Try.func22, Try.ntmps22
 go_upto_region 2 with (first | ((with_reducible refine gate_callee (f := 29) rfl ?_); refine goesL_ (some 11) rfl rfl Try.func29 (by kernel_rfl) rfl #[.slice A0 l0.length c0] rfl (by (try simp only [List.map_toArray, List.map_cons, List.map_nil]); first | done | rfl | (simp only [List.length_drop, List.length_take]; rfl)) ?_; (with_reducible refine (clusterlocksref01_Unframe.calls k _ _ l0 t254 t255 t256 _ ?side1 ?side2 A2.out).mono ?_); (case side1 => exact zC HR0.out); (case side2 => exact HC0.out); rintro e w4 ⟨v257, rfl, ho0, hb⟩; refine ⟨_, rfl, ?_⟩; have n0_ := am (Kd.R_lower ho0 (below_size (zL HB.out))); have n1_ := am (below_step (zL HB.out) hb); clear HB; have HO258 := n0_; have HB := n1_; clear n0_ n1_; (try clear hb); (try clear hb2); (try clear hk); (try clear hi); (try clear ho0)))
 (try simp only [Act.put, List.setIfInBounds_toArray, List.set_cons_zero, List.set_cons_succ])
 go_cut [22] (fun v22 wc => ∃ (kq : Nat) (x22_2 : Bool), v22 = .bool x22_2 ∧ Aside0 (clusterlocksref26_whole.j0 kq t254 x22_2 = some (r1, r2)) ∧ Aside0 (kq ≤ k) ∧ Aside0 (Kd.R (Kd.int .u8) 5 wc w.heap.size (fun _ => True) v257 t254) ∧ Aside0 (Below w.heap.size w wc))
 case first =>
  have H := HC3.out
  clear HC3
  by_cases c5 : t256 = 0
  ·rw [if_pos c5] at H
   have c5b0 : (t256 == 0) = true := beq_iff_eq.mpr c5
   have c5b1 : (t256 != 0) = false := bne_eq_false_iff_eq.mpr c5
   clear c5
   (first | rw [c5b0] | (simp only [i64_w, i32_w]; rw [c5b0]) | skip)
   have H' := Aside0.mk H
   clear H
   go_wp2
   go_meet
   case rel => exact ⟨_, ((t255 != (l0.length : Int))), (by first | rfl | (simp; done) | (simp [*]; done)), H', ⟨by first | omega | exact Nat.le_refl _⟩, ⟨by exact zR HO258.out⟩, ⟨zL HB.out⟩⟩
  ·rw [if_neg c5] at H
   have c5b0 : (t256 == 0) = false := beq_eq_false_iff_ne.mpr c5
   have c5b1 : (t256 != 0) = true := bne_iff_ne.mpr c5
   (first | rw [c5b0] | (simp only [i64_w, i32_w]; rw [c5b0]) | skip)
   have H' := Aside0.mk H
   clear H
   go_wp2
   go_meet
   case rel => exact ⟨_, (true), (by first | rfl | (simp; done) | (simp [*]; done)), H', ⟨by first | omega | exact Nat.le_refl _⟩, ⟨by exact zR HO258.out⟩, ⟨zL HB.out⟩⟩
 case rest =>
  clear HC3
  try clear c2
  try clear p2
  try clear c5
  try clear c5b0
  try clear c5b1
  obtain ⟨kq, x22_2, rfl, HA, HJ2, HO_4, HB⟩ := hcut
  cases kq with
  | zero => exact absurd HA.out (by simp [clusterlocksref26_whole.j0])
  | succ kj2 =>
   have H := HA.out
   clear HA
   simp only [clusterlocksref26_whole.j0] at H
   by_cases c6 : x22_2 = true
   ·subst c6
    have H1 : (some (([] : List Int), 0)) = some (r1, r2) := by rw [if_pos rfl] at H; exact H
    clear H
    have H := H1
    clear H1
    simp only [Option.some.injEq, Prod.mk.injEq] at H
    obtain ⟨rfl, rfl⟩ := H
    go_wp2
    go_ret2
    exact ⟨_, by first | rfl | (simp [errW_none, errW_some] <;> rfl) | (simp [*, errW_none, errW_some] <;> rfl), by first | exact Kd.R_nil _ _ _ _ _ | exact Kd.N_nil _ _ _ _ _ | exact Kd.V_nil _ _ _ _ _ | exact Kd.Q_nil _ _ _ _ _ | exact Kd.S_nil _ _ _ _ _, zL HB.out⟩
   ·replace c6 := Bool.eq_false_iff.mpr c6
    subst c6
    have H1 : ((clusterlocksref01_Uint.f kj2 t254).bind fun bt259 => (if bt259.2.2 = 0 then (if bt259.1 < 1 then (some (([] : List Int), 0)) else (if bt259.1 > 1073741824 then (some (([] : List Int), 0)) else (if (wrap64 ((t254.length : Int) - bt259.2.1)) > 512 then (some (([] : List Int), 0)) else (if 0 ≤ bt259.2.1 then (if bt259.2.1 ≤ (t254.length : Int) then ((some (t254.drop (bt259.2.1 : Int).toNat : List Int)).bind fun y262 => (if ([] : List Int).length + y262.length < 140737488355328 then (some ((([] : List Int) ++ y262), wrap64 (bt259.1))) else (none))) else (none)) else (none))))) else (some (([] : List Int), 0)))) = some (r1, r2) := by rw [if_neg (show ¬ (false = true) by decide)] at H; exact H
    clear H
    have H := H1
    clear H1
    replace H := Option.bind_eq_some_iff.mp H
    obtain ⟨⟨t259, t260, t261⟩, A70, H⟩ := H
    replace H : (if t261 = 0 then (if t259 < 1 then (some (([] : List Int), 0)) else (if t259 > 1073741824 then (some (([] : List Int), 0)) else (if (wrap64 ((t254.length : Int) - t260)) > 512 then (some (([] : List Int), 0)) else (if 0 ≤ t260 then (if t260 ≤ (t254.length : Int) then ((some (t254.drop (t260 : Int).toNat : List Int)).bind fun y262 => (if ([] : List Int).length + y262.length < 140737488355328 then (some ((([] : List Int) ++ y262), wrap64 (t259))) else (none))) else (none)) else (none))))) else (some (([] : List Int), 0))) = some (r1, r2) := H
    have A7 := Aside0.mk A70
    clear A70
    by_cases c8 : t261 = 0
    ·rw [if_pos c8] at H
     have c8b0 : (t261 == 0) = true := beq_iff_eq.mpr c8
     have c8b1 : (t261 != 0) = false := bne_eq_false_iff_eq.mpr c8
     clear c8
     by_cases c9 : t259 < 1
     ·rw [if_pos c9] at H
      have c9b0 : decide (t259 < 1) = true := decide_eq_true c9
      clear c9
      simp only [Option.some.injEq, Prod.mk.injEq] at H
      obtain ⟨rfl, rfl⟩ := H
      obtain ⟨Ao10, co10, eo10⟩ := Kd.R_slice HO_4.out
      subst eo10
      go_wp2_with (first | ((with_reducible refine gate_callee (f := 30) rfl ?_); refine goesL_ (some 25) rfl rfl Try.func30 (by kernel_rfl) rfl #[.slice Ao10 t254.length co10] rfl (by (try simp only [List.map_toArray, List.map_cons, List.map_nil]); first | done | rfl | (simp only [List.length_drop, List.length_take]; rfl)) ?_; (with_reducible refine (clusterlocksref01_Uint.calls kj2 _ _ t254 t259 t260 t261 _ ?side1 ?side2 A7.out).mono ?_); (case side1 => exact zC (Kd.R_reads' HO_4.out).2.2); (case side2 => exact (Kd.R_reads' HO_4.out).2.1); rintro e w' ⟨rfl, ⟨nd, rfl⟩⟩; refine ⟨_, rfl, ?_⟩))
      go_ret2
      exact ⟨_, by first | rfl | (simp [errW_none, errW_some] <;> rfl) | (simp [*, errW_none, errW_some] <;> rfl), by first | exact Kd.R_nil _ _ _ _ _ | exact Kd.N_nil _ _ _ _ _ | exact Kd.V_nil _ _ _ _ _ | exact Kd.Q_nil _ _ _ _ _ | exact Kd.S_nil _ _ _ _ _, zL HB.out⟩
     ·rw [if_neg c9] at H
      have c9b0 : decide (t259 < 1) = false := decide_eq_false c9
      clear c9
      by_cases c11 : t259 > 1073741824
      ·rw [if_pos c11] at H
       have c11b0 : decide (1073741824 < t259) = true := decide_eq_true c11
       clear c11
       simp only [Option.some.injEq, Prod.mk.injEq] at H
       obtain ⟨rfl, rfl⟩ := H
       obtain ⟨Ao12, co12, eo12⟩ := Kd.R_slice HO_4.out
       subst eo12
       go_wp2_with (first | ((with_reducible refine gate_callee (f := 30) rfl ?_); refine goesL_ (some 25) rfl rfl Try.func30 (by kernel_rfl) rfl #[.slice Ao12 t254.length co12] rfl (by (try simp only [List.map_toArray, List.map_cons, List.map_nil]); first | done | rfl | (simp only [List.length_drop, List.length_take]; rfl)) ?_; (with_reducible refine (clusterlocksref01_Uint.calls kj2 _ _ t254 t259 t260 t261 _ ?side1 ?side2 A7.out).mono ?_); (case side1 => exact zC (Kd.R_reads' HO_4.out).2.2); (case side2 => exact (Kd.R_reads' HO_4.out).2.1); rintro e w' ⟨rfl, ⟨nd, rfl⟩⟩; refine ⟨_, rfl, ?_⟩))
       go_ret2
       exact ⟨_, by first | rfl | (simp [errW_none, errW_some] <;> rfl) | (simp [*, errW_none, errW_some] <;> rfl), by first | exact Kd.R_nil _ _ _ _ _ | exact Kd.N_nil _ _ _ _ _ | exact Kd.V_nil _ _ _ _ _ | exact Kd.Q_nil _ _ _ _ _ | exact Kd.S_nil _ _ _ _ _, zL HB.out⟩
      ·rw [if_neg c11] at H
       have c11b0 : decide (1073741824 < t259) = false := decide_eq_false c11
       clear c11
       by_cases c13 : (wrap64 ((t254.length : Int) - t260)) > 512
       ·rw [if_pos c13] at H
        have c13b0 : decide (512 < (wrap64 ((t254.length : Int) - t260))) = true := decide_eq_true c13
        clear c13
        simp only [Option.some.injEq, Prod.mk.injEq] at H
        obtain ⟨rfl, rfl⟩ := H
        obtain ⟨Ao14, co14, eo14⟩ := Kd.R_slice HO_4.out
        subst eo14
        go_wp2_with (first | ((with_reducible refine gate_callee (f := 30) rfl ?_); refine goesL_ (some 25) rfl rfl Try.func30 (by kernel_rfl) rfl #[.slice Ao14 t254.length co14] rfl (by (try simp only [List.map_toArray, List.map_cons, List.map_nil]); first | done | rfl | (simp only [List.length_drop, List.length_take]; rfl)) ?_; (with_reducible refine (clusterlocksref01_Uint.calls kj2 _ _ t254 t259 t260 t261 _ ?side1 ?side2 A7.out).mono ?_); (case side1 => exact zC (Kd.R_reads' HO_4.out).2.2); (case side2 => exact (Kd.R_reads' HO_4.out).2.1); rintro e w' ⟨rfl, ⟨nd, rfl⟩⟩; refine ⟨_, rfl, ?_⟩))
        go_ret2
        exact ⟨_, by first | rfl | (simp [errW_none, errW_some] <;> rfl) | (simp [*, errW_none, errW_some] <;> rfl), by first | exact Kd.R_nil _ _ _ _ _ | exact Kd.N_nil _ _ _ _ _ | exact Kd.V_nil _ _ _ _ _ | exact Kd.Q_nil _ _ _ _ _ | exact Kd.S_nil _ _ _ _ _, zL HB.out⟩
       ·rw [if_neg c13] at H
        have c13b0 : decide (512 < (wrap64 ((t254.length : Int) - t260))) = false := decide_eq_false c13
        clear c13
        by_cases c15 : 0 ≤ t260
        ·rw [if_pos c15] at H
         have c15b0 := eq_true c15
         have c15b1 : decide (0 ≤ t260) = true := decide_eq_true c15
         clear c15
         by_cases c16 : t260 ≤ (t254.length : Int)
         ·rw [if_pos c16] at H
          have c16b0 := eq_true c16
          have c16b1 : decide (t260 ≤ (t254.length : Int)) = true := decide_eq_true c16
          clear c16
          obtain ⟨y262, hy262⟩ : ∃ y_ : List Int, y_ = (t254.drop (t260 : Int).toNat) := ⟨_, rfl⟩
          replace H : (if ([] : List Int).length + y262.length < 140737488355328 then (some ((([] : List Int) ++ y262), wrap64 (t259))) else (none)) = some (r1, r2) := by first | (rw [hy262]; with_reducible exact H) | (have H2_ := (Option.bind_some _ _).symm.trans H; rw [hy262]; with_reducible exact H2_) | (have H2_ := (Option.bind_some _ _).symm.trans H; with_reducible exact H2_) | with_reducible exact H | (rw [hy262]; exact H) | exact H
          have Ny262 := Aside0.mk hy262
          clear hy262
          by_cases c17 : ([] : List Int).length + y262.length < 140737488355328
          ·rw [if_pos c17] at H
           have LMc17 := Aside0.mk c17
           clear c17
           obtain ⟨y266, hy266⟩ : ∃ y_ : List Int, y_ = (([] : List Int) ++ y262) := ⟨_, rfl⟩
           replace H : (some (y266, wrap64 (t259))) = some (r1, r2) := by first | (rw [hy266]; with_reducible exact H) | (have H2_ := (Option.bind_some _ _).symm.trans H; rw [hy266]; with_reducible exact H2_) | (have H2_ := (Option.bind_some _ _).symm.trans H; with_reducible exact H2_) | with_reducible exact H | (rw [hy266]; exact H) | exact H
           have Ny266 := Aside0.mk hy266
           clear hy266
           simp only [Option.some.injEq, Prod.mk.injEq] at H
           obtain ⟨rfl, rfl⟩ := H
           obtain ⟨Ao18, co18, eo18⟩ := Kd.R_slice HO_4.out
           subst eo18
           go_wp2_with (first | ((with_reducible refine gate_callee (f := 30) rfl ?_); refine goesL_ (some 25) rfl rfl Try.func30 (by kernel_rfl) rfl #[.slice Ao18 t254.length co18] rfl (by (try simp only [List.map_toArray, List.map_cons, List.map_nil]); first | done | rfl | (simp only [List.length_drop, List.length_take]; rfl)) ?_; (with_reducible refine (clusterlocksref01_Uint.calls kj2 _ _ t254 t259 t260 t261 _ ?side1 ?side2 A7.out).mono ?_); (case side1 => exact zC (Kd.R_reads' HO_4.out).2.2); (case side2 => exact (Kd.R_reads' HO_4.out).2.1); rintro e w' ⟨rfl, ⟨nd, rfl⟩⟩; refine ⟨_, rfl, ?_⟩; have q19 : (t260 : Int) ≤ ((t254.length : Int) : Int) := of_decide_eq_true (by first | (with_reducible assumption) | assumption); obtain ⟨i019, hi019, _, hsz19, _⟩ := info_parts info5; have hroom19 : t254.length ≤ co18 := (Kd.R_reads' HO_4.out).2.1; have hC19 : Kd.C (Kd.int .u8) _ Ao18 t254.length t254 := (Kd.R_reads' HO_4.out).2.2; have q019 : (0 : Int) ≤ (t260 : Int) := of_decide_eq_true (by first | (with_reducible assumption) | assumption); have hcut19 := cut_from (P := Try.prog) 22 5 .i64 Try.underlying22 hi019 1 hsz19 Ao18 t254.length co18 t260 q019 q19; have hr19 := Kd.C_drop (m := (t260 : Int).toNat) (c := co18) hC19 (by omega) hroom19; obtain ⟨A19, hA19⟩ : ∃ A1, A1 = (if co18 = (t260 : Int).toNat then Ao18 else (Ao18 : Option Addr).map (·.add ((t260 : Int).toNat * 1))) := ⟨_, rfl⟩; obtain ⟨c19, hc19⟩ : ∃ c1, c1 = co18 - (t260 : Int).toNat := ⟨_, rfl⟩; have hy19 : y262.length = t254.length - (t260 : Int).toNat := (by rw [Ny262.out, List.length_drop] <;> omega); rw [show (t254).drop (t260 : Int).toNat = y262 from Ny262.out.symm] at hr19; replace hr19 : Kd.C (Kd.int .u8) _ A19 y262.length y262 := (by rw [hA19]; exact hr19); rw [← hy19, ← hA19, ← hc19] at hcut19; have HR265 := Aside0.mk hr19; have HC265 := am (show y262.length ≤ c19 from by rw [hy19, hc19]; exact Nat.sub_le_sub_right hroom19 _); clear hr19 hC19 hroom19 hi019 hsz19 hc19; have KY19 := Aside0.mk hy19; have KA19 := Aside0.mk hA19; clear hy19 hA19; have KL19 := am (show (t260 : Int).toNat ≤ t254.length from by omega); replace q19 := eq_true q19) | ((with_reducible refine gate_builtin (b := .append) (xs := #[.const (.slice none 0 0), .tmp 48]) rfl ?_); (try (refine gate_guard (by rfl) ?_; dsimp only)); at_builtin; refine Kd.R_append_rows (Kd.int .u8) (w0 := w) w.heap.size rfl (.const (.slice none 0 0)) (.tmp 48) 22 5 (.int .u8 0) 1 rfl Try.underlying22 info5 rfl (by decide) (by omega) (.slice none 0 0) ([] : List Int) y262 _ _ _ (fun k_ => some k_ ≠ (.slice Ao18 t254.length co18 : Value).ownBlock) (fun _ => False) rfl rfl ?aO ?aR (fun _ _ h => h) (fun _ h => h.elim) ?aF ?aB ?aS ?aL ?_; (case aR => repeat (first | exact (by repeat (first | (with_reducible exact HR265.out) | (with_reducible refine Kd.C_alloc ?_ _) | (with_reducible refine Kd.C_drewN ?_ _) | (with_reducible refine Kd.C_drew ?_) | exact HR265.out)) | (with_reducible refine Kd.C_alloc ?_ _) | (with_reducible refine Kd.C_drewN ?_ _) | (with_reducible refine Kd.C_drew ?_))); (case aB => exact (zL HB.out)); (case aF => exact (fun k_ hk => Kd.fresh' (Kd.R_lt (zR HO_4.out)) k_ hk)); (case aO => exact ((Kd.R_nil _ _ _ _ (fun k_ => some k_ ≠ (.slice Ao18 t254.length co18 : Value).ownBlock)))); (case aS => exact (below_size (zL HB.out))); (case aL => have := LMc17.out; omega); intro v267 w20 ho hb hg hat; rw [← Ny266.out] at ho; have n0_ := am (Kd.R_after (Kd.R_apart_nil (zR HO_4.out)) hg hat); have n1_ := am (hb); have n2_ := am ((show Kd.C (Kd.int .u8) w20 A19 y262.length y262 from by rw [Ny262.out, KA19.out]; exact Kd.C_drop (m := (t260 : Int).toNat) (c := co18) ((Kd.R_reads' (Kd.R_after (Kd.R_apart_nil (zR HO_4.out)) hg hat)).2.2) KL19.out ((Kd.R_reads' (Kd.R_after (Kd.R_apart_nil (zR HO_4.out)) hg hat)).2.1))); have n3_ := am (ho); clear HO_4 HB HR265; have HO_4 := n0_; have HB := n1_; have HR265 := n2_; have HO268 := n3_; clear n0_ n1_ n2_ n3_; clear ho hb hg hat))
           go_ret2
           exact ⟨_, by first | rfl | (simp [errW_none, errW_some] <;> rfl) | (simp [*, errW_none, errW_some] <;> rfl), by exact zR <| Kd.R_mono HO268.out (fun _ hk => trivial), zL HB.out⟩
          ·rw [if_neg c17] at H
           exact absurd H (by simp)
         ·rw [if_neg c16] at H
          exact absurd H (by simp)
        ·rw [if_neg c15] at H
         exact absurd H (by simp)
    ·rw [if_neg c8] at H
     have c8b0 : (t261 == 0) = false := beq_eq_false_iff_ne.mpr c8
     have c8b1 : (t261 != 0) = true := bne_iff_ne.mpr c8
     simp only [Option.some.injEq, Prod.mk.injEq] at H
     obtain ⟨rfl, rfl⟩ := H
     obtain ⟨Ao21, co21, eo21⟩ := Kd.R_slice HO_4.out
     subst eo21
     go_wp2_with (first | ((with_reducible refine gate_callee (f := 30) rfl ?_); refine goesL_ (some 25) rfl rfl Try.func30 (by kernel_rfl) rfl #[.slice Ao21 t254.length co21] rfl (by (try simp only [List.map_toArray, List.map_cons, List.map_nil]); first | done | rfl | (simp only [List.length_drop, List.length_take]; rfl)) ?_; (with_reducible refine (clusterlocksref01_Uint.calls kj2 _ _ t254 t259 t260 t261 _ ?side1 ?side2 A7.out).mono ?_); (case side1 => exact zC (Kd.R_reads' HO_4.out).2.2); (case side2 => exact (Kd.R_reads' HO_4.out).2.1); rintro e w' ⟨rfl, ⟨nd, rfl⟩⟩; refine ⟨_, rfl, ?_⟩))
     go_ret2
     exact ⟨_, by first | rfl | (simp [errW_none, errW_some] <;> rfl) | (simp [*, errW_none, errW_some] <;> rfl), by first | exact Kd.R_nil _ _ _ _ _ | exact Kd.N_nil _ _ _ _ _ | exact Kd.V_nil _ _ _ _ _ | exact Kd.Q_nil _ _ _ _ _ | exact Kd.S_nil _ _ _ _ _, zL HB.out⟩

end Go.Proofs.Ytjdicbffpbpenaa.Y

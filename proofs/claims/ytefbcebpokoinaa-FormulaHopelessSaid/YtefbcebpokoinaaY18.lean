-- Laid by a program of this session's (xprint.py, which runs the kit's print.py with patches of its own). Lean checks it.
import Derived.Test.YtefbcebpokoinaaY0
import Derived.Test.YtefbcebpokoinaaY8
import Derived.Test.YtefbcebpokoinaaY9
import Derived.Test.YtefbcebpokoinaaY10
import Derived.Test.YtefbcebpokoinaaY17
namespace Go.Proofs.Ytefbcebpokoinaa.Y
open Go.RowKit Go.Proofs.YtefbcebpokoinaaW.PrintWords Go.Proofs.YtefbcebpokoinaaW.PrintLast Go.Proofs.YtefbcebpokoinaaW.PrintMore
attribute [local go_sem] max2_int min2_int max_two min_two max_three min_three max_four min_four   -- for this text's walks alone
set_option linter.unusedVariables false
set_option linter.unusedSimpArgs false

/-! ### clusterlockslaw08_FormulaHopeless: function 6 -/
def clusterlockslaw08_FormulaHopeless.l0 : Nat → List Bool → Int → List Bool → Int → Int → ByteArray → Int → Int → List (S28) → Option (Bool)
 | 0, _, _, _, _, _, _, _, _, _ => none
 | k + 1, x1, x5, x6, x7, x438000, x438001, x438002, x438003, x438004 => if x7 < x5 then (if x7 ≥ (x1.length : Int) then (if 0 ≤ x7 then (if x7 < (x6.length : Int) then (clusterlockslaw08_FormulaHopeless.l0 k x1 x5 (x6.set (x7 : Int).toNat true) (wrap64 (x7 + 1)) x438000 x438001 x438002 x438003 x438004) else (none)) else (none)) else (if 0 ≤ x7 then (if x7 < (x1.length : Int) then (if x7 < (x6.length : Int) then (clusterlockslaw08_FormulaHopeless.l0 k x1 x5 (x6.set (x7 : Int).toNat (!(rdOf false x1 x7))) (wrap64 (x7 + 1)) x438000 x438001 x438002 x438003 x438004) else (none)) else (none)) else (none))) else ((clusterlockslaw08_awake.f k).bind fun t450 => (if t450 = true then ((formula_Hopeless.f k x438000 x438001 x438002 x438003 x438004 x1).bind fun t451 => ((formula_Holds.f k x438000 x438001 x438002 x438003 x438004 x6).bind fun t452 => (some (t451 != t452)))) else (none)))
def clusterlockslaw08_FormulaHopeless.f (k : Nat) (a0_0 : Int) (a0_1 : ByteArray) (a0_2 : Int) (a0_3 : Int) (l0_4 : List (S28)) (l1 : List Bool) : Option (Bool) := (clusterlocksref07_ValidExpr.f k a0_0 a0_1 a0_2 a0_3 l0_4).bind fun t438 => (if t438 = true then ((clusterlocksref08_Atoms.f k a0_0 a0_1 a0_2 a0_3 l0_4).bind fun t441 => (if 0 ≤ (t441.length : Int) then (if ((t441.length : Int) : Int).toNat ≤ 281474976710656 then (clusterlockslaw08_FormulaHopeless.l0 k l1 (t441.length : Int) (List.replicate ((t441.length : Int) : Int).toNat false) 0 a0_0 a0_1 a0_2 a0_3 l0_4) else (none)) else (none))) else ((clusterlockslaw08_awake.f k).bind fun t439 => (if t439 = true then ((formula_Hopeless.f k a0_0 a0_1 a0_2 a0_3 l0_4 l1).bind fun t440 => (some (!t440))) else (none))))
theorem clusterlockslaw08_FormulaHopeless.mono_l : ∀ k, (∀ y0 y1 y2 y3 y4 y5 y6 y7 y8, LeO (clusterlockslaw08_FormulaHopeless.l0 k y0 y1 y2 y3 y4 y5 y6 y7 y8) (clusterlockslaw08_FormulaHopeless.l0 (k + 1) y0 y1 y2 y3 y4 y5 y6 y7 y8))
 | 0 => fun _ _ _ _ _ _ _ _ _ r h => by simp [clusterlockslaw08_FormulaHopeless.l0] at h
 | k + 1 => by
  have ih0 := clusterlockslaw08_FormulaHopeless.mono_l k
  ·intro y0 y1 y2 y3 y4 y5 y6 y7 y8
   unfold clusterlockslaw08_FormulaHopeless.l0
   repeat' first
   | (with_reducible exact ih0 _ _ _ _ _ _ _ _ _)
   | (with_reducible exact clusterlockslaw08_awake.mono _)
   | (with_reducible exact clusterlocksref07_ValidExpr.mono _ _ _ _ _ _)
   | (with_reducible exact clusterlocksref08_Atoms.mono _ _ _ _ _ _)
   | (with_reducible exact formula_Holds.mono _ _ _ _ _ _ _)
   | (with_reducible exact formula_Hopeless.mono _ _ _ _ _ _ _)
   | (with_reducible exact LeO.refl _)
   | (with_reducible exact LeO.none _)
   | (with_reducible refine LeO.ite ?_ ?_)
   | (with_reducible refine LeO.bind ?_ (fun _ => ?_))
   | exact ih0 _ _ _ _ _ _ _ _ _
   | exact clusterlockslaw08_awake.mono _
   | exact clusterlocksref07_ValidExpr.mono _ _ _ _ _ _
   | exact clusterlocksref08_Atoms.mono _ _ _ _ _ _
   | exact formula_Holds.mono _ _ _ _ _ _ _
   | exact formula_Hopeless.mono _ _ _ _ _ _ _
   | exact LeO.none _
   | refine LeO.ite ?_ ?_
   | refine LeO.bind ?_ (fun _ => ?_)
theorem clusterlockslaw08_FormulaHopeless.mono : ∀ a0 a1 a2 a3 a4 a5 k, LeO (clusterlockslaw08_FormulaHopeless.f k a0 a1 a2 a3 a4 a5) (clusterlockslaw08_FormulaHopeless.f (k + 1) a0 a1 a2 a3 a4 a5) := by
 intro a0 a1 a2 a3 a4 a5 k
 have ih0 := clusterlockslaw08_FormulaHopeless.mono_l k
 unfold clusterlockslaw08_FormulaHopeless.f
 repeat' first
   | (with_reducible exact ih0 _ _ _ _ _ _ _ _ _)
   | (with_reducible exact clusterlockslaw08_awake.mono _)
   | (with_reducible exact clusterlocksref07_ValidExpr.mono _ _ _ _ _ _)
   | (with_reducible exact clusterlocksref08_Atoms.mono _ _ _ _ _ _)
   | (with_reducible exact formula_Holds.mono _ _ _ _ _ _ _)
   | (with_reducible exact formula_Hopeless.mono _ _ _ _ _ _ _)
   | (with_reducible exact LeO.refl _)
   | (with_reducible exact LeO.none _)
   | (with_reducible refine LeO.ite ?_ ?_)
   | (with_reducible refine LeO.bind ?_ (fun _ => ?_))
   | exact ih0 _ _ _ _ _ _ _ _ _
   | exact clusterlockslaw08_awake.mono _
   | exact clusterlocksref07_ValidExpr.mono _ _ _ _ _ _
   | exact clusterlocksref08_Atoms.mono _ _ _ _ _ _
   | exact formula_Holds.mono _ _ _ _ _ _ _
   | exact formula_Hopeless.mono _ _ _ _ _ _ _
   | exact LeO.none _
   | refine LeO.ite ?_ ?_
   | refine LeO.bind ?_ (fun _ => ?_)
def clusterlockslaw08_FormulaHopeless.T9 : Bool × List (List Nat × List Nat) := (true, [([], []), ([0, 0], [0]), ([1], [1]), ([1], [1]), ([2, 3, 1, 1], [1, 2, 3]), ([1], [1]), ([1], [1]), ([5, 6, 4, 1], [1, 5, 6]), ([4, 7, 1], [1, 4, 7]), ([1, 8], [1, 8]), ([9, 7, 0, 1, 2, 3, 4, 5, 6, 7, 8, 9], [9])])
def clusterlockslaw08_FormulaHopeless.B9 : List Nat := [0, 1, 3, 3, 15, 3, 3, 127, 255, 511, 1023]
theorem clusterlockslaw08_FormulaHopeless.tab9 : rtab .any (opsOf Try.f6 9) = clusterlockslaw08_FormulaHopeless.T9 := by kernel_rfl
theorem clusterlockslaw08_FormulaHopeless.bits9 : waitsOk clusterlockslaw08_FormulaHopeless.T9.2 clusterlockslaw08_FormulaHopeless.B9 = true := by kernel_rfl
set_option maxHeartbeats 8000000 in
set_option maxRecDepth 100000 in
theorem clusterlockslaw08_FormulaHopeless.calls (k : Nat) (a0_0 : Int) (a0_1 : ByteArray) (a0_2 : Int) (a0_3 : Int) (A0_4 : Option Addr) (c0_4 : Nat) (l0_4 : List (S28)) (A1 : Option Addr) (c1 : Nat) (l1 : List Bool) (r : Bool) (w : World) (hr0_4 : Kd.C k28 w A0_4 l0_4.length l0_4) (hc0_4 : l0_4.length ≤ c0_4) (hr1 : Kd.C Kd.bool w A1 l1.length l1) (hc1 : l1.length ≤ c1) (h : clusterlockslaw08_FormulaHopeless.f k a0_0 a0_1 a0_2 a0_3 l0_4 l1 = some r) :
  Calls Try.prog 6 #[.agg #[.int .i64 a0_0, .string a0_1, .int .i64 a0_2, .int .i64 a0_3, .slice A0_4 l0_4.length c0_4], .slice A1 l1.length c1] w fun e w' => e = .returned (.bool r) ∧ Below w.heap.size w w' := by
 have hu28 := Try.underlying28
 have HR0_4 := Aside0.mk hr0_4
 have HC0_4 := Aside0.mk hc0_4
 clear hr0_4 hc0_4
 have HR1 := Aside0.mk hr1
 have HC1 := Aside0.mk hc1
 clear hr1 hc1
 have HB := am (Below.refl w.heap.size w)
 have H : ((clusterlocksref07_ValidExpr.f k a0_0 a0_1 a0_2 a0_3 l0_4).bind fun t438 => (if t438 = true then ((clusterlocksref08_Atoms.f k a0_0 a0_1 a0_2 a0_3 l0_4).bind fun t441 => (if 0 ≤ (t441.length : Int) then (if ((t441.length : Int) : Int).toNat ≤ 281474976710656 then (clusterlockslaw08_FormulaHopeless.l0 k l1 (t441.length : Int) (List.replicate ((t441.length : Int) : Int).toNat false) 0 a0_0 a0_1 a0_2 a0_3 l0_4) else (none)) else (none))) else ((clusterlockslaw08_awake.f k).bind fun t439 => (if t439 = true then ((formula_Hopeless.f k a0_0 a0_1 a0_2 a0_3 l0_4 l1).bind fun t440 => (some (!t440))) else (none))))) = some r := h
 clear h
 replace H := Option.bind_eq_some_iff.mp H
 obtain ⟨t438, A30, H⟩ := H
 replace H : (if t438 = true then ((clusterlocksref08_Atoms.f k a0_0 a0_1 a0_2 a0_3 l0_4).bind fun t441 => (if 0 ≤ (t441.length : Int) then (if ((t441.length : Int) : Int).toNat ≤ 281474976710656 then (clusterlockslaw08_FormulaHopeless.l0 k l1 (t441.length : Int) (List.replicate ((t441.length : Int) : Int).toNat false) 0 a0_0 a0_1 a0_2 a0_3 l0_4) else (none)) else (none))) else ((clusterlockslaw08_awake.f k).bind fun t439 => (if t439 = true then ((formula_Hopeless.f k a0_0 a0_1 a0_2 a0_3 l0_4 l1).bind fun t440 => (some (!t440))) else (none)))) = some r := H
 have A3 := Aside0.mk A30
 clear A30
 by_cases c4 : t438 = true
 ·subst c4
  have H1 : ((clusterlocksref08_Atoms.f k a0_0 a0_1 a0_2 a0_3 l0_4).bind fun t441 => (if 0 ≤ (t441.length : Int) then (if ((t441.length : Int) : Int).toNat ≤ 281474976710656 then (clusterlockslaw08_FormulaHopeless.l0 k l1 (t441.length : Int) (List.replicate ((t441.length : Int) : Int).toNat false) 0 a0_0 a0_1 a0_2 a0_3 l0_4) else (none)) else (none))) = some r := by rw [if_pos rfl] at H; exact H
  clear H
  have H := H1
  clear H1
  replace H := Option.bind_eq_some_iff.mp H
  obtain ⟨t441, A50, H⟩ := H
  replace H : (if 0 ≤ (t441.length : Int) then (if ((t441.length : Int) : Int).toNat ≤ 281474976710656 then (clusterlockslaw08_FormulaHopeless.l0 k l1 (t441.length : Int) (List.replicate ((t441.length : Int) : Int).toNat false) 0 a0_0 a0_1 a0_2 a0_3 l0_4) else (none)) else (none)) = some r := H
  have A5 := Aside0.mk A50
  clear A50
  by_cases c6 : 0 ≤ (t441.length : Int)
  ·rw [if_pos c6] at H
   have c6b0 := eq_true c6
   have c6b1 : decide (0 ≤ (t441.length : Int)) = true := decide_eq_true c6
   clear c6
   by_cases c7 : ((t441.length : Int) : Int).toNat ≤ 281474976710656
   ·rw [if_pos c7] at H
    have c7b0 := eq_true c7
    have c7b1 : decide (((t441.length : Int) : Int).toNat ≤ 281474976710656) = true := decide_eq_true c7
    clear c7
    obtain ⟨y444, hy444⟩ : ∃ y_ : List Bool, y_ = (List.replicate ((t441.length : Int) : Int).toNat false) := ⟨_, rfl⟩
    replace H : (clusterlockslaw08_FormulaHopeless.l0 k l1 (t441.length : Int) y444 0 a0_0 a0_1 a0_2 a0_3 l0_4) = some r := by first | (rw [hy444]; with_reducible exact H) | (have H2_ := (Option.bind_some _ _).symm.trans H; rw [hy444]; with_reducible exact H2_) | (have H2_ := (Option.bind_some _ _).symm.trans H; with_reducible exact H2_) | with_reducible exact H | (rw [hy444]; exact H) | exact H
    have Ny444 := Aside0.mk hy444
    clear hy444
    have H' := Aside0.mk H
    clear H
    go_enter Try.func6, Try.ntmps6
    go_wp2_with (first | ((with_reducible refine gate_dst (N := 2) rfl ?_); refine box_event ?hg (N := 2) ?hd (cs := #[.int .i64 a0_0, .string a0_1, .int .i64 a0_2, .int .i64 a0_3, .slice A0_4 l0_4.length c0_4]) (t := 28) ?hr ?_; (case hd => rfl); (case hg => rfl); (case hr => first | (go_simp; done) | (go_simp; rfl)); intro gb437 hg w8 hbox hb; have n0_ := am (below_step (zL HB.out) hb); have n1_ := am (hbox); have n2_ := am (zS hg HB.out); have n3_ := am (zS hg HB.out); clear HB; have HB := n0_; have BK437 := n1_; have GW437 := n2_; have GE437 := n3_; clear n0_ n1_ n2_ n3_; clear hb hbox hg; obtain ⟨hcz9_0, hcz9_1, hcz9_2, hcz9_3, hcz9_4, hfz9_0, hfz9_1, hfz9_2, hfz9_3, hfz9_4⟩ := b5 BK437.out) | ((with_reducible refine gate_callee (f := 22) rfl ?_); refine goesL_ (some 9) rfl rfl Try.func22 (by kernel_rfl) rfl #[.agg #[.int .i64 a0_0, .string a0_1, .int .i64 a0_2, .int .i64 a0_3, .slice A0_4 l0_4.length c0_4]] rfl mp1 ?_; (with_reducible refine (clusterlocksref07_ValidExpr.calls k a0_0 a0_1 a0_2 a0_3 _ _ l0_4 true _ ?side1 ?side2 A3.out).mono ?_); (case side1 => exact zC (Kd.C_below HR0_4.out HB.out)); (case side2 => exact HC0_4.out); rintro e w10 ⟨rfl, hb⟩; refine ⟨_, rfl, ?_⟩; have n0_ := am (blk_below (zB BK437.out) hb); have n1_ := am (below_step (zL HB.out) hb); clear BK437 HB; have BK437 := n0_; have HB := n1_; clear n0_ n1_; (try clear hb); (try clear hb2); (try clear hk); (try clear hi); obtain ⟨hcz11_0, hcz11_1, hcz11_2, hcz11_3, hcz11_4, hfz11_0, hfz11_1, hfz11_2, hfz11_3, hfz11_4⟩ := b5 BK437.out) | ((with_reducible refine gate_callee (f := 13) rfl ?_); refine goesL_ (some 19) rfl rfl Try.func13 (by kernel_rfl) rfl #[.agg #[.int .i64 a0_0, .string a0_1, .int .i64 a0_2, .int .i64 a0_3, .slice A0_4 l0_4.length c0_4]] rfl mp1 ?_; (with_reducible refine (clusterlocksref08_Atoms.calls k a0_0 a0_1 a0_2 a0_3 _ _ l0_4 t441 _ ?side1 ?side2 A5.out).mono ?_); (case side1 => exact zC (Kd.C_below HR0_4.out HB.out)); (case side2 => exact HC0_4.out); rintro e w12 ⟨v442, rfl, ho0, hb⟩; refine ⟨_, rfl, ?_⟩; have n0_ := am (Kd.R_lower ho0 (below_size (zL HB.out))); have n1_ := am (blk_below (zB BK437.out) hb); have n2_ := am (below_step (zL HB.out) hb); clear BK437 HB; have HO443 := n0_; have BK437 := n1_; have HB := n2_; clear n0_ n1_ n2_; (try clear hb); (try clear hb2); (try clear hk); (try clear hi); (try clear ho0); obtain ⟨Ao13, co13, eo13⟩ := Kd.R_slice HO443.out; subst eo13) | ((with_reducible refine gate_dst (N := 22) rfl ?_); refine Kd.R_make Kd.bool _ 4 rfl (N := 22) rfl 33 _ _ rfl (t441.length : Int) rfl rfl Try.underlying33 (.bool false) 1 info4 rfl (by decide) (by omega) false (ok := fun _ => True) (okp := fun _ => True) rfl (fun _ hk => hk) trivial (of_decide_eq_true (by first | (with_reducible assumption) | assumption)) (Nat.le_trans (Nat.mul_le_mul_right _ (of_decide_eq_true (by first | (with_reducible assumption) | assumption) : (t441.length : Int).toNat ≤ 281474976710656)) (by omega)) (Below.refl _ _) (Nat.le_refl _) ?_; intro v445 w14 ho15 hb hg_ hnew_; clear hg_ hnew_; (first | rw [← Ny444.out] at ho15 | (simp only [Int.reduceToNat] at ho15; rw [← Ny444.out] at ho15)); have n0_ := am (Kd.R_below (zR HO443.out) hb); have n1_ := am (Kd.R_lower ho15 (below_size (zL HB.out))); have n2_ := am (blk_below (zB BK437.out) hb); have n3_ := am (below_step (zL HB.out) hb); clear HO443 BK437 HB; have HO443 := n0_; have HO446 := n1_; have BK437 := n2_; have HB := n3_; clear n0_ n1_ n2_ n3_; clear hb ho15))
    go_loopg [7] k (fun kq v7 w' => ∃ (x6_1 : List Bool) (x7_1 : Int), v7 = .int .i64 x7_1 ∧ Aside0 (clusterlockslaw08_FormulaHopeless.l0 kq l1 (t441.length : Int) x6_1 x7_1 a0_0 a0_1 a0_2 a0_3 l0_4 = some r) ∧ Aside0 (kq ≤ k) ∧ Aside0 (Kd.R Kd.bool 4 w' w.heap.size (fun _ => True) v445 x6_1) ∧ Aside0 (w'.heap[gb437]? = some (.cells #[.int .i64 a0_0, .string a0_1, .int .i64 a0_2, .int .i64 a0_3, (.slice A0_4 l0_4.length c0_4)] 28 (0, 0))) ∧ Aside0 (Below w.heap.size w w'))
    case atStart => exact ⟨(y444), (0), (by first | rfl | (simp; done) | (simp [*]; done)), H', ⟨Nat.le_refl _⟩, ⟨by exact zR HO446.out⟩, ⟨by exact zB <| BK437.out⟩, ⟨by repeat (first | (with_reducible first | exact HB.out | apply ba | apply bd | apply be | refine below_set ?_ GE437.out) | exact HB.out)⟩⟩
    case round =>
     clear H'
     try clear c1
     try clear c2
     try clear p2
     try clear c4
     try clear c6
     try clear c6b0
     try clear c6b1
     try clear c7
     try clear c7b0
     try clear c7b1
     try clear c13
     try clear hcz11_0
     try clear hcz11_1
     try clear hcz11_2
     try clear hcz11_3
     try clear hcz11_4
     try clear hcz9_0
     try clear hcz9_1
     try clear hcz9_2
     try clear hcz9_3
     try clear hcz9_4
     try clear hfz11_0
     try clear hfz11_1
     try clear hfz11_2
     try clear hfz11_3
     try clear hfz11_4
     try clear hfz9_0
     try clear hfz9_1
     try clear hfz9_2
     try clear hfz9_3
     try clear hfz9_4
     obtain ⟨x6_1, x7_1, rfl, HA, HK1, HO_6, BK437, HB⟩ := hrel
     cases gk with
     | zero => exact absurd HA.out (by simp [clusterlockslaw08_FormulaHopeless.l0])
     | succ k1 =>
      have H := HA.out
      clear HA
      simp only [clusterlockslaw08_FormulaHopeless.l0] at H
      by_cases c16 : x7_1 < (t441.length : Int)
      ·rw [if_pos c16] at H
       have c16b0 : decide (x7_1 < (t441.length : Int)) = true := decide_eq_true c16
       clear c16
       by_cases c17 : x7_1 ≥ (l1.length : Int)
       ·rw [if_pos c17] at H
        have c17b0 : decide ((l1.length : Int) ≤ x7_1) = true := decide_eq_true c17
        clear c17
        by_cases c18 : 0 ≤ x7_1
        ·rw [if_pos c18] at H
         have c18b0 : decide (0 ≤ x7_1) = true := decide_eq_true c18
         clear c18
         by_cases c19 : x7_1 < (x6_1.length : Int)
         ·rw [if_pos c19] at H
          have c19b0 : decide (x7_1 < (x6_1.length : Int)) = true := decide_eq_true c19
          clear c19
          obtain ⟨y447, hy447⟩ : ∃ y_ : List Bool, y_ = (x6_1.set (x7_1 : Int).toNat true) := ⟨_, rfl⟩
          replace H : (clusterlockslaw08_FormulaHopeless.l0 k1 l1 (t441.length : Int) y447 (wrap64 (x7_1 + 1)) a0_0 a0_1 a0_2 a0_3 l0_4) = some r := by first | (rw [hy447]; with_reducible exact H) | (have H2_ := (Option.bind_some _ _).symm.trans H; rw [hy447]; with_reducible exact H2_) | (have H2_ := (Option.bind_some _ _).symm.trans H; with_reducible exact H2_) | with_reducible exact H | (rw [hy447]; exact H) | exact H
          have Ny447 := Aside0.mk hy447
          clear hy447
          have H' := Aside0.mk H
          clear H
          have p20 : 0 ≤ (x7_1 : Int) := of_decide_eq_true (by first | (with_reducible assumption) | assumption)
          have q20 : (x7_1 : Int) < ((x6_1.length : Int) : Int) := of_decide_eq_true (by first | (with_reducible assumption) | assumption)
          obtain ⟨go20, co20, eo20, gb20, gl20, cl20, HG20⟩ := Kd.R_form HO_6.out (by omega)
          (first | cases eo20 | (injection eo20 with ea_ en_ ec_; (first | subst ea_ | (injection ea_ with ea_; subst ea_)); subst ec_; clear en_))
          have GB20 := Aside0.mk gb20
          have GG20 := Aside0.mk HG20
          clear gb20 gl20 HG20
          obtain ⟨hx20_0, hf20_0⟩ := Kd.R_celln false HO_6.out (x7_1 : Int) p20 q20
          replace p20 := eq_true p20
          replace q20 := eq_true q20
          have HP21 := Kd.R_putg HO_6.out (x7_1 : Int) true
          go_wp2_with (first | ((with_reducible refine gate_store (t := 4) (p := 41) rfl ?_); refine store_event (t := 4) (p := 41) (v := ?vo_w22) (w1 := (wr.setCell ⟨go20, (x7_1 : Int).toNat, none⟩ (.bool true))) ?hg ?ho ?hn ?hr ?_; (case ho => rfl); (case hg => rfl); (case hn => rfl); (case hr => first | (go_simp; done) | (go_simp; rfl)); intro w22 hw; have hg : wr.grownBy w22 (some go20) := (by rw [hw]; exact HP21.2); have hp_ : Kd.R Kd.bool 4 w22 w.heap.size (fun _ => True) (.slice (some ⟨go20, 0, none⟩) x6_1.length co20) y447 := (by rw [hw, Ny447.out]; exact HP21.1); clear HP21; have n0_ := am (hp_); have n1_ := am (blk_grown (g := gb437) (o := .cells #[.int .i64 a0_0, .string a0_1, .int .i64 a0_2, .int .i64 a0_3, .slice A0_4 l0_4.length c0_4] 28 (0, 0)) (zB BK437.out) hg (Kd.R_ne HO_6.out BK437.out (by decide))); have n2_ := am ((by rw [hw]; exact below_set (HB.out) GB20.out : Below w.heap.size w w22)); clear HO_6 BK437 HB; have HO_6 := n0_; have BK437 := n1_; have HB := n2_; clear n0_ n1_ n2_; clear hg hw hp_))
          go_roundg k1
          case measure => have := HK1.out; omega
          case rel => exact ⟨(y447), (wrap64 (x7_1 + 1)), (by first | rfl | (simp; done) | (simp [*]; done)), H', ⟨by have := HK1.out; omega⟩, ⟨by exact zR HO_6.out⟩, ⟨by exact zB <| BK437.out⟩, ⟨by repeat (first | (with_reducible first | exact HB.out | apply ba | apply bd | apply be | refine below_set ?_ GE437.out) | exact HB.out)⟩⟩
         ·rw [if_neg c19] at H
          exact absurd H (by simp)
        ·rw [if_neg c18] at H
         exact absurd H (by simp)
       ·rw [if_neg c17] at H
        have c17b0 : decide ((l1.length : Int) ≤ x7_1) = false := decide_eq_false c17
        clear c17
        by_cases c23 : 0 ≤ x7_1
        ·rw [if_pos c23] at H
         have c23b0 : decide (0 ≤ x7_1) = true := decide_eq_true c23
         clear c23
         by_cases c24 : x7_1 < (l1.length : Int)
         ·rw [if_pos c24] at H
          have c24b0 : decide (x7_1 < (l1.length : Int)) = true := decide_eq_true c24
          clear c24
          by_cases c25 : x7_1 < (x6_1.length : Int)
          ·rw [if_pos c25] at H
           have c25b0 : decide (x7_1 < (x6_1.length : Int)) = true := decide_eq_true c25
           clear c25
           obtain ⟨y449, hy449⟩ : ∃ y_ : List Bool, y_ = (x6_1.set (x7_1 : Int).toNat (!(rdOf false l1 x7_1))) := ⟨_, rfl⟩
           replace H : (clusterlockslaw08_FormulaHopeless.l0 k1 l1 (t441.length : Int) y449 (wrap64 (x7_1 + 1)) a0_0 a0_1 a0_2 a0_3 l0_4) = some r := by first | (rw [hy449]; with_reducible exact H) | (have H2_ := (Option.bind_some _ _).symm.trans H; rw [hy449]; with_reducible exact H2_) | (have H2_ := (Option.bind_some _ _).symm.trans H; with_reducible exact H2_) | with_reducible exact H | (rw [hy449]; exact H) | exact H
           have Ny449 := Aside0.mk hy449
           clear hy449
           have H' := Aside0.mk H
           clear H
           have p448 : 0 ≤ (x7_1 : Int) := of_decide_eq_true (by first | (with_reducible assumption) | assumption)
           have q448 : x7_1 < (l1.length : Int) := of_decide_eq_true (by first | (with_reducible assumption) | assumption)
           obtain ⟨ad448, e448, hx448_0⟩ := Kd.at_bool HR1.out x7_1 p448 q448
           cases e448
           replace hx448_0 := (HB.out.cell (World.block_lt_of_cell? w _ hx448_0)).trans hx448_0
           replace p448 := eq_true p448
           replace q448 := eq_true q448
           have p26 : 0 ≤ (x7_1 : Int) := of_decide_eq_true (by first | (with_reducible assumption) | assumption)
           have q26 : (x7_1 : Int) < ((x6_1.length : Int) : Int) := of_decide_eq_true (by first | (with_reducible assumption) | assumption)
           obtain ⟨go26, co26, eo26, gb26, gl26, cl26, HG26⟩ := Kd.R_form HO_6.out (by omega)
           (first | cases eo26 | (injection eo26 with ea_ en_ ec_; (first | subst ea_ | (injection ea_ with ea_; subst ea_)); subst ec_; clear en_))
           have GB26 := Aside0.mk gb26
           have GG26 := Aside0.mk HG26
           clear gb26 gl26 HG26
           obtain ⟨hx26_0, hf26_0⟩ := Kd.R_celln false HO_6.out (x7_1 : Int) p26 q26
           replace p26 := eq_true p26
           replace q26 := eq_true q26
           have HP27 := Kd.R_putg HO_6.out (x7_1 : Int) (!(rdOf false l1 x7_1))
           go_wp2_with (first | ((with_reducible refine gate_store (t := 4) (p := 41) rfl ?_); refine store_event (t := 4) (p := 41) (v := ?vo_w28) (w1 := (wr.setCell ⟨go26, (x7_1 : Int).toNat, none⟩ (.bool (!(rdOf false l1 x7_1))))) ?hg ?ho ?hn ?hr ?_; (case ho => rfl); (case hg => rfl); (case hn => rfl); (case hr => first | (go_simp; done) | (go_simp; rfl)); intro w28 hw; have hg : wr.grownBy w28 (some go26) := (by rw [hw]; exact HP27.2); have hp_ : Kd.R Kd.bool 4 w28 w.heap.size (fun _ => True) (.slice (some ⟨go26, 0, none⟩) x6_1.length co26) y449 := (by rw [hw, Ny449.out]; exact HP27.1); clear HP27; have n0_ := am (hp_); have n1_ := am (blk_grown (g := gb437) (o := .cells #[.int .i64 a0_0, .string a0_1, .int .i64 a0_2, .int .i64 a0_3, .slice A0_4 l0_4.length c0_4] 28 (0, 0)) (zB BK437.out) hg (Kd.R_ne HO_6.out BK437.out (by decide))); have n2_ := am ((by rw [hw]; exact below_set (HB.out) GB26.out : Below w.heap.size w w28)); clear HO_6 BK437 HB; have HO_6 := n0_; have BK437 := n1_; have HB := n2_; clear n0_ n1_ n2_; clear hg hw hp_))
           go_roundg k1
           case measure => have := HK1.out; omega
           case rel => exact ⟨(y449), (wrap64 (x7_1 + 1)), (by first | rfl | (simp; done) | (simp [*]; done)), H', ⟨by have := HK1.out; omega⟩, ⟨by exact zR HO_6.out⟩, ⟨by exact zB <| BK437.out⟩, ⟨by repeat (first | (with_reducible first | exact HB.out | apply ba | apply bd | apply be | refine below_set ?_ GE437.out) | exact HB.out)⟩⟩
          ·rw [if_neg c25] at H
           exact absurd H (by simp)
         ·rw [if_neg c24] at H
          exact absurd H (by simp)
        ·rw [if_neg c23] at H
         exact absurd H (by simp)
      ·rw [if_neg c16] at H
       have c16b0 : decide (x7_1 < (t441.length : Int)) = false := decide_eq_false c16
       clear c16
       replace H := Option.bind_eq_some_iff.mp H
       obtain ⟨t450, A290, H⟩ := H
       replace H : (if t450 = true then ((formula_Hopeless.f k1 a0_0 a0_1 a0_2 a0_3 l0_4 l1).bind fun t451 => ((formula_Holds.f k1 a0_0 a0_1 a0_2 a0_3 l0_4 x6_1).bind fun t452 => (some (t451 != t452)))) else (none)) = some r := H
       have A29 := Aside0.mk A290
       clear A290
       by_cases c30 : t450 = true
       ·subst c30
        have H1 : ((formula_Hopeless.f k1 a0_0 a0_1 a0_2 a0_3 l0_4 l1).bind fun t451 => ((formula_Holds.f k1 a0_0 a0_1 a0_2 a0_3 l0_4 x6_1).bind fun t452 => (some (t451 != t452)))) = some r := by rw [if_pos rfl] at H; exact H
        clear H
        have H := H1
        clear H1
        replace H := Option.bind_eq_some_iff.mp H
        obtain ⟨t451, A310, H⟩ := H
        replace H : ((formula_Holds.f k1 a0_0 a0_1 a0_2 a0_3 l0_4 x6_1).bind fun t452 => (some (t451 != t452))) = some r := H
        have A31 := Aside0.mk A310
        clear A310
        replace H := Option.bind_eq_some_iff.mp H
        obtain ⟨t452, A320, H⟩ := H
        replace H : (some (t451 != t452)) = some r := H
        have A32 := Aside0.mk A320
        clear A320
        obtain rfl := Option.some.inj H
        try go_wp2
        have n0_ := am (Kd.R_drew HO_6.out)
        have n1_ := am (blk_drew BK437.out)
        have n2_ := am (below_drew1 HB.out)
        clear HO_6 BK437 HB
        have HO_6 := n0_
        have BK437 := n1_
        have HB := n2_
        clear n0_ n1_ n2_
        refine start_ (n := 11) (S := fun w' => w'.cell? ⟨gb437, 0, none⟩ = some (.int .i64 a0_0) ∧ w'.cell? ⟨gb437, 1, none⟩ = some (.string a0_1) ∧ w'.cell? ⟨gb437, 2, none⟩ = some (.int .i64 a0_2) ∧ w'.cell? ⟨gb437, 3, none⟩ = some (.int .i64 a0_3) ∧ w'.cell? ⟨gb437, 4, none⟩ = some (.slice A0_4 l0_4.length c0_4)) (ds := []) #[false, false, false, false, false, false, false, false, false, false, false] (by kernel_rfl) rfl rfl ⟨(blk_cell BK437.out 0).trans rfl, (blk_cell BK437.out 1).trans rfl, (blk_cell BK437.out 2).trans rfl, (blk_cell BK437.out 3).trans rfl, (blk_cell BK437.out 4).trans rfl⟩ (fun hHeld => ?_); refine with_tabW clusterlockslaw08_FormulaHopeless.tab9 clusterlockslaw08_FormulaHopeless.bits9 (fun HT_ HW_ => ?_)
        generalize wr.drew = w33 at HO_6 BK437 HB hHeld ⊢
        refine one_ (i := 0) (N := some 42) #[true, false, false, false, false, false, false, false, false, false, false] rfl rfl (one_of HT_.out (by kernel_rfl)) (by decide) (fun K hK => ?_)
        refine goes_ Try.func14 (by kernel_rfl) rfl #[] (by rfl) rfl rfl (by (try simp only [List.map_toArray, List.map_cons, List.map_nil]); first | done | rfl | (simp only [List.length_drop, List.length_take]; rfl)) ?_
        with_reducible refine (clusterlockslaw08_awake.calls k1  true _ A29.out).mono ?_
        rintro e w34 ⟨rfl, hb⟩
        refine ⟨_, rfl, ?_⟩
        have n0_ := am (Kd.R_below (zR HO_6.out) hb)
        have n1_ := am (blk_below (zB BK437.out) hb)
        have n2_ := am (below_step (zL HB.out) hb)
        clear HO_6 BK437 HB
        have HO_6 := n0_
        have BK437 := n1_
        have HB := n2_
        clear n0_ n1_ n2_
        (try clear hb)
        (try clear hb2)
        (try clear hk)
        (try clear hi)
        refine hK.out _ _ ⟨(blk_cell BK437.out 0).trans rfl, (blk_cell BK437.out 1).trans rfl, (blk_cell BK437.out 2).trans rfl, (blk_cell BK437.out 3).trans rfl, (blk_cell BK437.out 4).trans rfl⟩ (fun hHeld => ?_)
        clear hK K
        refine norm_ (a' := ?_) ?_ ?_
        rotate_left
        ·show Act.put _ (some 42) _ = _
         simp only [Act.put, List.setIfInBounds_toArray, List.set_cons_zero, List.set_cons_succ, i64_w, i32_w]
         rfl
        refine pure_ (i := 1) (N := some 43) (v := ?_) (a' := ?_) #[true, true, false, false, false, false, false, false, false, false, false] rfl rfl (any_of HT_.out (by kernel_rfl)) (fun _ _ _ h => h) (Or.inl ⟨by rfl, ?_⟩) ?_ ?_
        rotate_left
        ·intro w'
         go_simp
         with_reducible rfl
        rotate_left
        ·simp only [Act.put, List.setIfInBounds_toArray, List.set_cons_zero, List.set_cons_succ, i64_w, i32_w]
         rfl
        refine pure_ (i := 3) (N := some 45) (v := ?_) (a' := ?_) #[true, true, false, true, false, false, false, false, false, false, false] rfl rfl (any_of HT_.out (by kernel_rfl)) (fun _ _ _ h => h) (Or.inl ⟨by rfl, ?_⟩) ?_ ?_
        rotate_left
        ·intro w'
         go_simp
         with_reducible rfl
        rotate_left
        ·simp only [Act.put, List.setIfInBounds_toArray, List.set_cons_zero, List.set_cons_succ, i64_w, i32_w]
         rfl
        refine pure_ (i := 6) (N := some 48) (v := ?_) (a' := ?_) #[true, true, false, true, false, false, true, false, false, false, false] rfl rfl (any_of HT_.out (by kernel_rfl)) (fun _ _ _ h => h) (Or.inl ⟨by rfl, ?_⟩) ?_ ?_
        rotate_left
        ·intro w'
         go_simp
         with_reducible rfl
        rotate_left
        ·simp only [Act.put, List.setIfInBounds_toArray, List.set_cons_zero, List.set_cons_succ, i64_w, i32_w]
         rfl
        refine take_ (i := 2) (N := some 44) (v := ?_) (a' := ?_) #[true, true, true, true, false, false, true, false, false, false, false] rfl rfl (take_ofW HT_.out HW_.out (by kernel_rfl)) (fun _ _ _ h => h) (Or.inl ⟨by rfl, ?_⟩) hHeld ?_ ?_
        rotate_left
        ·rintro w' ⟨s0, s1, s2, s3, s4⟩
         go_simp
         with_reducible rfl
        rotate_left
        ·simp only [Act.put, List.setIfInBounds_toArray, List.set_cons_zero, List.set_cons_succ, i64_w, i32_w]
         rfl
        refine take_ (i := 5) (N := some 47) (v := ?_) (a' := ?_) #[true, true, true, true, false, true, true, false, false, false, false] rfl rfl (take_ofW HT_.out HW_.out (by kernel_rfl)) (fun _ _ _ h => h) (Or.inl ⟨by rfl, ?_⟩) hHeld ?_ ?_
        rotate_left
        ·rintro w' ⟨s0, s1, s2, s3, s4⟩
         go_simp
         with_reducible rfl
        rotate_left
        ·simp only [Act.put, List.setIfInBounds_toArray, List.set_cons_zero, List.set_cons_succ, i64_w, i32_w]
         rfl
        refine one_ (i := 4) (N := some 46) #[true, true, true, true, true, true, true, false, false, false, false] rfl rfl (one_of HT_.out (by kernel_rfl)) (by decide) (fun K hK => ?_)
        refine goes_ Try.func17 (by kernel_rfl) rfl #[.agg #[.int .i64 a0_0, .string a0_1, .int .i64 a0_2, .int .i64 a0_3, .slice A0_4 l0_4.length c0_4], .slice A1 l1.length c1] (by rfl) rfl rfl (by (try simp only [List.map_toArray, List.map_cons, List.map_nil]); first | done | rfl | (simp only [List.length_drop, List.length_take]; rfl)) ?_
        with_reducible refine (formula_Hopeless.calls k1 a0_0 a0_1 a0_2 a0_3 _ _ l0_4 _ _ l1 t451 _ ?side1 ?side2 ?side3 ?side4 A31.out).mono ?_
        (case side1 => exact zC (Kd.C_below HR0_4.out HB.out))
        (case side2 => exact HC0_4.out)
        (case side3 => exact zC (Kd.C_below HR1.out HB.out))
        (case side4 => exact HC1.out)
        rintro e w35 ⟨rfl, hb⟩
        refine ⟨_, rfl, ?_⟩
        have n0_ := am (Kd.R_below (zR HO_6.out) hb)
        have n1_ := am (blk_below (zB BK437.out) hb)
        have n2_ := am (below_step (zL HB.out) hb)
        clear HO_6 BK437 HB
        have HO_6 := n0_
        have BK437 := n1_
        have HB := n2_
        clear n0_ n1_ n2_
        (try clear hb)
        (try clear hb2)
        (try clear hk)
        (try clear hi)
        obtain ⟨Ao36, co36, eo36⟩ := Kd.R_slice HO_6.out
        (first | subst eo36 | (injection eo36 with f1_ f2_ f3_; have f4_ := f1_.symm; have f5_ := f3_.symm; clear f1_ f2_ f3_; subst f4_; subst f5_))
        refine hK.out _ _ ⟨(blk_cell BK437.out 0).trans rfl, (blk_cell BK437.out 1).trans rfl, (blk_cell BK437.out 2).trans rfl, (blk_cell BK437.out 3).trans rfl, (blk_cell BK437.out 4).trans rfl⟩ (fun hHeld => ?_)
        clear hK K
        refine norm_ (a' := ?_) ?_ ?_
        rotate_left
        ·show Act.put _ (some 46) _ = _
         simp only [Act.put, List.setIfInBounds_toArray, List.set_cons_zero, List.set_cons_succ, i64_w, i32_w]
         rfl
        refine one_ (i := 7) (N := some 49) #[true, true, true, true, true, true, true, true, false, false, false] rfl rfl (one_of HT_.out (by kernel_rfl)) (by decide) (fun K hK => ?_)
        refine goes_ Try.func15 (by kernel_rfl) rfl #[.agg #[.int .i64 a0_0, .string a0_1, .int .i64 a0_2, .int .i64 a0_3, .slice A0_4 l0_4.length c0_4], .slice Ao36 x6_1.length co36] (by rfl) rfl rfl (by (try simp only [List.map_toArray, List.map_cons, List.map_nil]); first | done | rfl | (simp only [List.length_drop, List.length_take]; rfl)) ?_
        with_reducible refine (formula_Holds.calls k1 a0_0 a0_1 a0_2 a0_3 _ _ l0_4 _ _ x6_1 t452 _ ?side1 ?side2 ?side3 ?side4 A32.out).mono ?_
        (case side1 => exact zC (Kd.C_below HR0_4.out HB.out))
        (case side2 => exact HC0_4.out)
        (case side3 => exact zC (Kd.R_reads' HO_6.out).2.2)
        (case side4 => exact (Kd.R_reads' HO_6.out).2.1)
        rintro e w37 ⟨rfl, hb⟩
        refine ⟨_, rfl, ?_⟩
        have n0_ := am (Kd.R_below (zR HO_6.out) hb)
        have n1_ := am (blk_below (zB BK437.out) hb)
        have n2_ := am (below_step (zL HB.out) hb)
        clear HO_6 BK437 HB
        have HO_6 := n0_
        have BK437 := n1_
        have HB := n2_
        clear n0_ n1_ n2_
        (try clear hb)
        (try clear hb2)
        (try clear hk)
        (try clear hi)
        refine hK.out _ _ ⟨(blk_cell BK437.out 0).trans rfl, (blk_cell BK437.out 1).trans rfl, (blk_cell BK437.out 2).trans rfl, (blk_cell BK437.out 3).trans rfl, (blk_cell BK437.out 4).trans rfl⟩ (fun hHeld => ?_)
        clear hK K
        refine norm_ (a' := ?_) ?_ ?_
        rotate_left
        ·show Act.put _ (some 49) _ = _
         simp only [Act.put, List.setIfInBounds_toArray, List.set_cons_zero, List.set_cons_succ, i64_w, i32_w]
         rfl
        refine pure_ (i := 8) (N := some 50) (v := ?_) (a' := ?_) #[true, true, true, true, true, true, true, true, true, false, false] rfl rfl (any_of HT_.out (by kernel_rfl)) (fun _ _ _ h => h) (Or.inl ⟨by rfl, ?_⟩) ?_ ?_
        rotate_left
        ·intro w'
         go_simp
         with_reducible rfl
        rotate_left
        ·simp only [Act.put, List.setIfInBounds_toArray, List.set_cons_zero, List.set_cons_succ, i64_w, i32_w]
         rfl
        refine pure_ (i := 9) (N := some 51) (v := ?_) (a' := ?_) #[true, true, true, true, true, true, true, true, true, true, false] rfl rfl (any_of HT_.out (by kernel_rfl)) (fun _ _ _ h => h) (Or.inl ⟨by rfl, ?_⟩) ?_ ?_
        rotate_left
        ·intro w'
         go_simp
         with_reducible rfl
        rotate_left
        ·simp only [Act.put, List.setIfInBounds_toArray, List.set_cons_zero, List.set_cons_succ, i64_w, i32_w]
         rfl
        refine pure_ (i := 10) (N := some 4) (v := ?_) (a' := ?_) #[true, true, true, true, true, true, true, true, true, true, true] rfl rfl (any_of HT_.out (by kernel_rfl)) (fun _ _ _ h => h) (Or.inl ⟨by rfl, ?_⟩) ?_ ?_
        rotate_left
        ·intro w'
         go_simp
         with_reducible rfl
        rotate_left
        ·simp only [Act.put, List.setIfInBounds_toArray, List.set_cons_zero, List.set_cons_succ, i64_w, i32_w]
         rfl
        refine done_ (done_of HT_.out (by kernel_rfl)) ?_
        try go_wp2
        go_ret
        exact ⟨by first | rfl | (simp [errW_none, errW_some] <;> rfl) | (simp [*, errW_none, errW_some] <;> rfl), by repeat (first | (with_reducible first | exact HB.out | apply ba | apply bd | apply be | refine below_set ?_ GE437.out) | exact HB.out)⟩
       ·replace c30 := Bool.eq_false_iff.mpr c30
        subst c30
        have H1 : (none) = some r := by rw [if_neg (show ¬ (false = true) by decide)] at H; exact H
        clear H
        have H := H1
        clear H1
        exact absurd H (by simp)
   ·rw [if_neg c7] at H
    exact absurd H (by simp)
  ·rw [if_neg c6] at H
   exact absurd H (by simp)
 ·replace c4 := Bool.eq_false_iff.mpr c4
  subst c4
  have H1 : ((clusterlockslaw08_awake.f k).bind fun t439 => (if t439 = true then ((formula_Hopeless.f k a0_0 a0_1 a0_2 a0_3 l0_4 l1).bind fun t440 => (some (!t440))) else (none))) = some r := by rw [if_neg (show ¬ (false = true) by decide)] at H; exact H
  clear H
  have H := H1
  clear H1
  replace H := Option.bind_eq_some_iff.mp H
  obtain ⟨t439, A380, H⟩ := H
  replace H : (if t439 = true then ((formula_Hopeless.f k a0_0 a0_1 a0_2 a0_3 l0_4 l1).bind fun t440 => (some (!t440))) else (none)) = some r := H
  have A38 := Aside0.mk A380
  clear A380
  by_cases c39 : t439 = true
  ·subst c39
   have H1 : ((formula_Hopeless.f k a0_0 a0_1 a0_2 a0_3 l0_4 l1).bind fun t440 => (some (!t440))) = some r := by rw [if_pos rfl] at H; exact H
   clear H
   have H := H1
   clear H1
   replace H := Option.bind_eq_some_iff.mp H
   obtain ⟨t440, A400, H⟩ := H
   replace H : (some (!t440)) = some r := H
   have A40 := Aside0.mk A400
   clear A400
   obtain rfl := Option.some.inj H
   go_enter Try.func6, Try.ntmps6
   go_wp2_with (first | ((with_reducible refine gate_dst (N := 2) rfl ?_); refine box_event ?hg (N := 2) ?hd (cs := #[.int .i64 a0_0, .string a0_1, .int .i64 a0_2, .int .i64 a0_3, .slice A0_4 l0_4.length c0_4]) (t := 28) ?hr ?_; (case hd => rfl); (case hg => rfl); (case hr => first | (go_simp; done) | (go_simp; rfl)); intro gb437 hg w41 hbox hb; have n0_ := am (below_step (zL HB.out) hb); have n1_ := am (hbox); have n2_ := am (zS hg HB.out); have n3_ := am (zS hg HB.out); clear HB; have HB := n0_; have BK437 := n1_; have GW437 := n2_; have GE437 := n3_; clear n0_ n1_ n2_ n3_; clear hb hbox hg; obtain ⟨hcz42_0, hcz42_1, hcz42_2, hcz42_3, hcz42_4, hfz42_0, hfz42_1, hfz42_2, hfz42_3, hfz42_4⟩ := b5 BK437.out) | ((with_reducible refine gate_callee (f := 22) rfl ?_); refine goesL_ (some 9) rfl rfl Try.func22 (by kernel_rfl) rfl #[.agg #[.int .i64 a0_0, .string a0_1, .int .i64 a0_2, .int .i64 a0_3, .slice A0_4 l0_4.length c0_4]] rfl mp1 ?_; (with_reducible refine (clusterlocksref07_ValidExpr.calls k a0_0 a0_1 a0_2 a0_3 _ _ l0_4 false _ ?side1 ?side2 A3.out).mono ?_); (case side1 => exact zC (Kd.C_below HR0_4.out HB.out)); (case side2 => exact HC0_4.out); rintro e w43 ⟨rfl, hb⟩; refine ⟨_, rfl, ?_⟩; have n0_ := am (blk_below (zB BK437.out) hb); have n1_ := am (below_step (zL HB.out) hb); clear BK437 HB; have BK437 := n0_; have HB := n1_; clear n0_ n1_; (try clear hb); (try clear hb2); (try clear hk); (try clear hi)) | ((with_reducible refine gate_callee (f := 14) rfl ?_); refine goesL_ (some 11) rfl rfl Try.func14 (by kernel_rfl) rfl #[] rfl mp0 ?_; (with_reducible refine (clusterlockslaw08_awake.calls k  true _ A38.out).mono ?_); rintro e w44 ⟨rfl, hb⟩; refine ⟨_, rfl, ?_⟩; have n0_ := am (blk_below (zB BK437.out) hb); have n1_ := am (below_step (zL HB.out) hb); clear BK437 HB; have BK437 := n0_; have HB := n1_; clear n0_ n1_; (try clear hb); (try clear hb2); (try clear hk); (try clear hi); obtain ⟨hcz45_0, hcz45_1, hcz45_2, hcz45_3, hcz45_4, hfz45_0, hfz45_1, hfz45_2, hfz45_3, hfz45_4⟩ := b5 BK437.out) | (go_at_call 17; (with_reducible refine (formula_Hopeless.calls k a0_0 a0_1 a0_2 a0_3 _ _ l0_4 _ _ l1 t440 _ ?side1 ?side2 ?side3 ?side4 A40.out).mono ?_); (case side1 => exact zC (Kd.C_below HR0_4.out HB.out)); (case side2 => exact HC0_4.out); (case side3 => exact zC (Kd.C_below HR1.out HB.out)); (case side4 => exact HC1.out); rintro e w46 ⟨rfl, hb⟩; have n0_ := am (blk_below (zB BK437.out) hb); have n1_ := am (below_step (zL HB.out) hb); clear BK437 HB; have BK437 := n0_; have HB := n1_; clear n0_ n1_; (try clear hb); (try clear hb2); (try clear hk); (try clear hi)))
   go_ret
   exact ⟨by first | rfl | (simp [errW_none, errW_some] <;> rfl) | (simp [*, errW_none, errW_some] <;> rfl), by repeat (first | (with_reducible first | exact HB.out | apply ba | apply bd | apply be | refine below_set ?_ GE437.out) | exact HB.out)⟩
  ·replace c39 := Bool.eq_false_iff.mpr c39
   subst c39
   have H1 : (none) = some r := by rw [if_neg (show ¬ (false = true) by decide)] at H; exact H
   clear H
   have H := H1
   clear H1
   exact absurd H (by simp)

end Go.Proofs.Ytefbcebpokoinaa.Y

-- Laid by a program of this session's (xprint.py, which runs the kit's print.py with patches of its own). Lean checks it.
import Derived.Test.YtefbcebpokoinaaY0
import Derived.Test.YtefbcebpokoinaaY9
import Derived.Test.YtefbcebpokoinaaY10
namespace Go.Proofs.Ytefbcebpokoinaa.Y
open Go.RowKit Go.Proofs.YtefbcebpokoinaaW.PrintWords Go.Proofs.YtefbcebpokoinaaW.PrintLast Go.Proofs.YtefbcebpokoinaaW.PrintMore
attribute [local go_sem] max2_int min2_int max_two min_two max_three min_three max_four min_four   -- for this text's walks alone
set_option linter.unusedVariables false
set_option linter.unusedSimpArgs false

/-! ### clusterlockslaw08_FormulaMinimal: function 8 -/
mutual
def clusterlockslaw08_FormulaMinimal.j0 : Nat → List Bool → List Bool → Bool → Int → ByteArray → Int → Int → List (S28) → Option (Bool)
 | 0, _, _, _, _, _, _, _, _ => none
 | k + 1, x1, x5, x23, x481000, x481001, x481002, x481003, x481004 => if x23 = true then (none) else (clusterlockslaw08_FormulaMinimal.l0 k x1 x5 0 x481000 x481001 x481002 x481003 x481004)
def clusterlockslaw08_FormulaMinimal.l0 : Nat → List Bool → List Bool → Int → Int → ByteArray → Int → Int → List (S28) → Option (Bool)
 | 0, _, _, _, _, _, _, _, _ => none
 | k + 1, x1, x5, x6, x481000, x481001, x481002, x481003, x481004 => if x6 < (x5.length : Int) then (if 0 ≤ x6 then (if rdOf false x5 x6 = true then ((some (([] : List Bool) : List Bool)).bind fun y489 => (if y489.length + x5.length < 140737488355328 then ((some (y489 ++ x5 : List Bool)).bind fun y492 => (if x6 < (y492.length : Int) then (if x6 ≥ (x1.length : Int) then (none) else (if x6 < (x1.length : Int) then (if rdOf false x1 x6 = true then ((formula_Holds.f k x481000 x481001 x481002 x481003 x481004 (y492.set (x6 : Int).toNat false)).bind fun t497 => (if t497 = true then (none) else (clusterlockslaw08_FormulaMinimal.l0 k x1 x5 (wrap64 (x6 + 1)) x481000 x481001 x481002 x481003 x481004))) else (none)) else (none))) else (none))) else (none))) else (clusterlockslaw08_FormulaMinimal.l0 k x1 x5 (wrap64 (x6 + 1)) x481000 x481001 x481002 x481003 x481004)) else (none)) else (some true)
end
def clusterlockslaw08_FormulaMinimal.f (k : Nat) (a0_0 : Int) (a0_1 : ByteArray) (a0_2 : Int) (a0_3 : Int) (l0_4 : List (S28)) (l1 : List Bool) : Option (Bool) := (formula_Holds.f k a0_0 a0_1 a0_2 a0_3 l0_4 l1).bind fun t481 => (if t481 = true then ((formula_Prune.f k a0_0 a0_1 a0_2 a0_3 l0_4 l1).bind fun t483 => ((clusterlockslaw08_awake.f k).bind fun t486 => (if t486 = true then ((formula_Holds.f k a0_0 a0_1 a0_2 a0_3 l0_4 t483).bind fun t487 => (clusterlockslaw08_FormulaMinimal.j0 k l1 t483 (!t487) a0_0 a0_1 a0_2 a0_3 l0_4)) else (clusterlockslaw08_FormulaMinimal.j0 k l1 t483 true a0_0 a0_1 a0_2 a0_3 l0_4)))) else ((clusterlockslaw08_awake.f k).bind fun t482 => (some t482)))
theorem clusterlockslaw08_FormulaMinimal.mono_l : ∀ k, (∀ y0 y1 y2 y3 y4 y5 y6 y7, LeO (clusterlockslaw08_FormulaMinimal.j0 k y0 y1 y2 y3 y4 y5 y6 y7) (clusterlockslaw08_FormulaMinimal.j0 (k + 1) y0 y1 y2 y3 y4 y5 y6 y7)) ∧ (∀ y0 y1 y2 y3 y4 y5 y6 y7, LeO (clusterlockslaw08_FormulaMinimal.l0 k y0 y1 y2 y3 y4 y5 y6 y7) (clusterlockslaw08_FormulaMinimal.l0 (k + 1) y0 y1 y2 y3 y4 y5 y6 y7))
 | 0 => ⟨fun _ _ _ _ _ _ _ _ r h => by simp [clusterlockslaw08_FormulaMinimal.j0] at h, fun _ _ _ _ _ _ _ _ r h => by simp [clusterlockslaw08_FormulaMinimal.l0] at h⟩
 | k + 1 => by
  obtain ⟨ih0, ih1⟩ := clusterlockslaw08_FormulaMinimal.mono_l k
  refine ⟨?_, ?_⟩
  ·intro y0 y1 y2 y3 y4 y5 y6 y7
   unfold clusterlockslaw08_FormulaMinimal.j0
   repeat' first
   | (with_reducible exact ih0 _ _ _ _ _ _ _ _)
   | (with_reducible exact ih1 _ _ _ _ _ _ _ _)
   | (with_reducible exact clusterlockslaw08_awake.mono _)
   | (with_reducible exact formula_Holds.mono _ _ _ _ _ _ _)
   | (with_reducible exact formula_Prune.mono _ _ _ _ _ _ _)
   | (with_reducible exact LeO.refl _)
   | (with_reducible exact LeO.none _)
   | (with_reducible refine LeO.ite ?_ ?_)
   | (with_reducible refine LeO.bind ?_ (fun _ => ?_))
   | exact ih0 _ _ _ _ _ _ _ _
   | exact ih1 _ _ _ _ _ _ _ _
   | exact clusterlockslaw08_awake.mono _
   | exact formula_Holds.mono _ _ _ _ _ _ _
   | exact formula_Prune.mono _ _ _ _ _ _ _
   | exact LeO.none _
   | refine LeO.ite ?_ ?_
   | refine LeO.bind ?_ (fun _ => ?_)
  ·intro y0 y1 y2 y3 y4 y5 y6 y7
   unfold clusterlockslaw08_FormulaMinimal.l0
   repeat' first
   | (with_reducible exact ih0 _ _ _ _ _ _ _ _)
   | (with_reducible exact ih1 _ _ _ _ _ _ _ _)
   | (with_reducible exact clusterlockslaw08_awake.mono _)
   | (with_reducible exact formula_Holds.mono _ _ _ _ _ _ _)
   | (with_reducible exact formula_Prune.mono _ _ _ _ _ _ _)
   | (with_reducible exact LeO.refl _)
   | (with_reducible exact LeO.none _)
   | (with_reducible refine LeO.ite ?_ ?_)
   | (with_reducible refine LeO.bind ?_ (fun _ => ?_))
   | exact ih0 _ _ _ _ _ _ _ _
   | exact ih1 _ _ _ _ _ _ _ _
   | exact clusterlockslaw08_awake.mono _
   | exact formula_Holds.mono _ _ _ _ _ _ _
   | exact formula_Prune.mono _ _ _ _ _ _ _
   | exact LeO.none _
   | refine LeO.ite ?_ ?_
   | refine LeO.bind ?_ (fun _ => ?_)
theorem clusterlockslaw08_FormulaMinimal.mono : ∀ a0 a1 a2 a3 a4 a5 k, LeO (clusterlockslaw08_FormulaMinimal.f k a0 a1 a2 a3 a4 a5) (clusterlockslaw08_FormulaMinimal.f (k + 1) a0 a1 a2 a3 a4 a5) := by
 intro a0 a1 a2 a3 a4 a5 k
 obtain ⟨ih0, ih1⟩ := clusterlockslaw08_FormulaMinimal.mono_l k
 unfold clusterlockslaw08_FormulaMinimal.f
 repeat' first
   | (with_reducible exact ih0 _ _ _ _ _ _ _ _)
   | (with_reducible exact ih1 _ _ _ _ _ _ _ _)
   | (with_reducible exact clusterlockslaw08_awake.mono _)
   | (with_reducible exact formula_Holds.mono _ _ _ _ _ _ _)
   | (with_reducible exact formula_Prune.mono _ _ _ _ _ _ _)
   | (with_reducible exact LeO.refl _)
   | (with_reducible exact LeO.none _)
   | (with_reducible refine LeO.ite ?_ ?_)
   | (with_reducible refine LeO.bind ?_ (fun _ => ?_))
   | exact ih0 _ _ _ _ _ _ _ _
   | exact ih1 _ _ _ _ _ _ _ _
   | exact clusterlockslaw08_awake.mono _
   | exact formula_Holds.mono _ _ _ _ _ _ _
   | exact formula_Prune.mono _ _ _ _ _ _ _
   | exact LeO.none _
   | refine LeO.ite ?_ ?_
   | refine LeO.bind ?_ (fun _ => ?_)
set_option maxHeartbeats 8000000 in
set_option maxRecDepth 100000 in
theorem clusterlockslaw08_FormulaMinimal.calls (k : Nat) (a0_0 : Int) (a0_1 : ByteArray) (a0_2 : Int) (a0_3 : Int) (A0_4 : Option Addr) (c0_4 : Nat) (l0_4 : List (S28)) (A1 : Option Addr) (c1 : Nat) (l1 : List Bool) (r : Bool) (w : World) (hr0_4 : Kd.C k28 w A0_4 l0_4.length l0_4) (hc0_4 : l0_4.length ≤ c0_4) (hr1 : Kd.C Kd.bool w A1 l1.length l1) (hc1 : l1.length ≤ c1) (h : clusterlockslaw08_FormulaMinimal.f k a0_0 a0_1 a0_2 a0_3 l0_4 l1 = some r) :
  Calls Try.prog 8 #[.agg #[.int .i64 a0_0, .string a0_1, .int .i64 a0_2, .int .i64 a0_3, .slice A0_4 l0_4.length c0_4], .slice A1 l1.length c1] w fun e w' => e = .returned (.bool r) ∧ Below w.heap.size w w' := by
 have hu28 := Try.underlying28
 have HR0_4 := Aside0.mk hr0_4
 have HC0_4 := Aside0.mk hc0_4
 clear hr0_4 hc0_4
 have HR1 := Aside0.mk hr1
 have HC1 := Aside0.mk hc1
 clear hr1 hc1
 have HB := am (Below.refl w.heap.size w)
 have H : ((formula_Holds.f k a0_0 a0_1 a0_2 a0_3 l0_4 l1).bind fun t481 => (if t481 = true then ((formula_Prune.f k a0_0 a0_1 a0_2 a0_3 l0_4 l1).bind fun t483 => ((clusterlockslaw08_awake.f k).bind fun t486 => (if t486 = true then ((formula_Holds.f k a0_0 a0_1 a0_2 a0_3 l0_4 t483).bind fun t487 => (clusterlockslaw08_FormulaMinimal.j0 k l1 t483 (!t487) a0_0 a0_1 a0_2 a0_3 l0_4)) else (clusterlockslaw08_FormulaMinimal.j0 k l1 t483 true a0_0 a0_1 a0_2 a0_3 l0_4)))) else ((clusterlockslaw08_awake.f k).bind fun t482 => (some t482)))) = some r := h
 clear h
 replace H := Option.bind_eq_some_iff.mp H
 obtain ⟨t481, A30, H⟩ := H
 replace H : (if t481 = true then ((formula_Prune.f k a0_0 a0_1 a0_2 a0_3 l0_4 l1).bind fun t483 => ((clusterlockslaw08_awake.f k).bind fun t486 => (if t486 = true then ((formula_Holds.f k a0_0 a0_1 a0_2 a0_3 l0_4 t483).bind fun t487 => (clusterlockslaw08_FormulaMinimal.j0 k l1 t483 (!t487) a0_0 a0_1 a0_2 a0_3 l0_4)) else (clusterlockslaw08_FormulaMinimal.j0 k l1 t483 true a0_0 a0_1 a0_2 a0_3 l0_4)))) else ((clusterlockslaw08_awake.f k).bind fun t482 => (some t482))) = some r := H
 have A3 := Aside0.mk A30
 clear A30
 by_cases c4 : t481 = true
 ·subst c4
  have H1 : ((formula_Prune.f k a0_0 a0_1 a0_2 a0_3 l0_4 l1).bind fun t483 => ((clusterlockslaw08_awake.f k).bind fun t486 => (if t486 = true then ((formula_Holds.f k a0_0 a0_1 a0_2 a0_3 l0_4 t483).bind fun t487 => (clusterlockslaw08_FormulaMinimal.j0 k l1 t483 (!t487) a0_0 a0_1 a0_2 a0_3 l0_4)) else (clusterlockslaw08_FormulaMinimal.j0 k l1 t483 true a0_0 a0_1 a0_2 a0_3 l0_4)))) = some r := by rw [if_pos rfl] at H; exact H
  clear H
  have H := H1
  clear H1
  replace H := Option.bind_eq_some_iff.mp H
  obtain ⟨t483, A50, H⟩ := H
  replace H : ((clusterlockslaw08_awake.f k).bind fun t486 => (if t486 = true then ((formula_Holds.f k a0_0 a0_1 a0_2 a0_3 l0_4 t483).bind fun t487 => (clusterlockslaw08_FormulaMinimal.j0 k l1 t483 (!t487) a0_0 a0_1 a0_2 a0_3 l0_4)) else (clusterlockslaw08_FormulaMinimal.j0 k l1 t483 true a0_0 a0_1 a0_2 a0_3 l0_4))) = some r := H
  have A5 := Aside0.mk A50
  clear A50
  have HC6 := Aside0.mk H
  clear H
  go_enter Try.func8, Try.ntmps8
  go_upto_region 4 with (first | ((with_reducible refine gate_dst (N := 2) rfl ?_); refine box_event ?hg (N := 2) ?hd (cs := #[.int .i64 a0_0, .string a0_1, .int .i64 a0_2, .int .i64 a0_3, .slice A0_4 l0_4.length c0_4]) (t := 28) ?hr ?_; (case hd => rfl); (case hg => rfl); (case hr => first | (go_simp; done) | (go_simp; rfl)); intro gb480 hg w7 hbox hb; have n0_ := am (below_step (zL HB.out) hb); have n1_ := am (hbox); have n2_ := am (zS hg HB.out); have n3_ := am (zS hg HB.out); clear HB; have HB := n0_; have BK480 := n1_; have GW480 := n2_; have GE480 := n3_; clear n0_ n1_ n2_ n3_; clear hb hbox hg; obtain ⟨hcz8_0, hcz8_1, hcz8_2, hcz8_3, hcz8_4, hfz8_0, hfz8_1, hfz8_2, hfz8_3, hfz8_4⟩ := b5 BK480.out) | ((with_reducible refine gate_callee (f := 15) rfl ?_); refine goesL_ (some 10) rfl rfl Try.func15 (by kernel_rfl) rfl #[.agg #[.int .i64 a0_0, .string a0_1, .int .i64 a0_2, .int .i64 a0_3, .slice A0_4 l0_4.length c0_4], .slice A1 l1.length c1] rfl mp2 ?_; (with_reducible refine (formula_Holds.calls k a0_0 a0_1 a0_2 a0_3 _ _ l0_4 _ _ l1 true _ ?side1 ?side2 ?side3 ?side4 A3.out).mono ?_); (case side1 => exact zC (Kd.C_below HR0_4.out HB.out)); (case side2 => exact HC0_4.out); (case side3 => exact zC (Kd.C_below HR1.out HB.out)); (case side4 => exact HC1.out); rintro e w9 ⟨rfl, hb⟩; refine ⟨_, rfl, ?_⟩; have n0_ := am (blk_below (zB BK480.out) hb); have n1_ := am (below_step (zL HB.out) hb); clear BK480 HB; have BK480 := n0_; have HB := n1_; clear n0_ n1_; (try clear hb); (try clear hb2); (try clear hk); (try clear hi); obtain ⟨hcz10_0, hcz10_1, hcz10_2, hcz10_3, hcz10_4, hfz10_0, hfz10_1, hfz10_2, hfz10_3, hfz10_4⟩ := b5 BK480.out) | ((with_reducible refine gate_callee (f := 24) rfl ?_); refine goesL_ (some 15) rfl rfl Try.func24 (by kernel_rfl) rfl #[.agg #[.int .i64 a0_0, .string a0_1, .int .i64 a0_2, .int .i64 a0_3, .slice A0_4 l0_4.length c0_4], .slice A1 l1.length c1] rfl mp2 ?_; (with_reducible refine (formula_Prune.calls k a0_0 a0_1 a0_2 a0_3 _ _ l0_4 _ _ l1 t483 _ ?side1 ?side2 ?side3 ?side4 A5.out).mono ?_); (case side1 => exact zC (Kd.C_below HR0_4.out HB.out)); (case side2 => exact HC0_4.out); (case side3 => exact zC (Kd.C_below HR1.out HB.out)); (case side4 => exact HC1.out); rintro e w11 ⟨v484, rfl, ho0, hb⟩; refine ⟨_, rfl, ?_⟩; have n0_ := am (Kd.R_lower ho0 (below_size (zL HB.out))); have n1_ := am (blk_below (zB BK480.out) hb); have n2_ := am (below_step (zL HB.out) hb); clear BK480 HB; have HO485 := n0_; have BK480 := n1_; have HB := n2_; clear n0_ n1_ n2_; (try clear hb); (try clear hb2); (try clear hk); (try clear hi); (try clear ho0)))
  (try simp only [Act.put, List.setIfInBounds_toArray, List.set_cons_zero, List.set_cons_succ])
  go_cut [23] (fun v23 wc => ∃ (kq : Nat) (x23_5 : Bool), v23 = .bool x23_5 ∧ Aside0 (clusterlockslaw08_FormulaMinimal.j0 kq l1 t483 x23_5 a0_0 a0_1 a0_2 a0_3 l0_4 = some r) ∧ Aside0 (kq ≤ k) ∧ Aside0 (Kd.R Kd.bool 4 wc w.heap.size (fun _ => True) v484 t483) ∧ Aside0 (wc.heap[gb480]? = some (.cells #[.int .i64 a0_0, .string a0_1, .int .i64 a0_2, .int .i64 a0_3, (.slice A0_4 l0_4.length c0_4)] 28 (0, 0))) ∧ Aside0 (Below w.heap.size w wc))
  case first =>
   have H := HC6.out
   clear HC6
   replace H := Option.bind_eq_some_iff.mp H
   obtain ⟨t486, A120, H⟩ := H
   replace H : (if t486 = true then ((formula_Holds.f k a0_0 a0_1 a0_2 a0_3 l0_4 t483).bind fun t487 => (clusterlockslaw08_FormulaMinimal.j0 k l1 t483 (!t487) a0_0 a0_1 a0_2 a0_3 l0_4)) else (clusterlockslaw08_FormulaMinimal.j0 k l1 t483 true a0_0 a0_1 a0_2 a0_3 l0_4)) = some r := H
   have A12 := Aside0.mk A120
   clear A120
   by_cases c13 : t486 = true
   ·subst c13
    have H1 : ((formula_Holds.f k a0_0 a0_1 a0_2 a0_3 l0_4 t483).bind fun t487 => (clusterlockslaw08_FormulaMinimal.j0 k l1 t483 (!t487) a0_0 a0_1 a0_2 a0_3 l0_4)) = some r := by rw [if_pos rfl] at H; exact H
    clear H
    have H := H1
    clear H1
    replace H := Option.bind_eq_some_iff.mp H
    obtain ⟨t487, A140, H⟩ := H
    replace H : (clusterlockslaw08_FormulaMinimal.j0 k l1 t483 (!t487) a0_0 a0_1 a0_2 a0_3 l0_4) = some r := H
    have A14 := Aside0.mk A140
    clear A140
    have H' := Aside0.mk H
    clear H
    go_wp2_with (first | ((with_reducible refine gate_callee (f := 14) rfl ?_); refine goesL_ (some 16) rfl rfl Try.func14 (by kernel_rfl) rfl #[] rfl mp0 ?_; (with_reducible refine (clusterlockslaw08_awake.calls k  true _ A12.out).mono ?_); rintro e w15 ⟨rfl, hb⟩; refine ⟨_, rfl, ?_⟩; have n0_ := am (Kd.R_below (zR HO485.out) hb); have n1_ := am (blk_below (zB BK480.out) hb); have n2_ := am (below_step (zL HB.out) hb); clear HO485 BK480 HB; have HO485 := n0_; have BK480 := n1_; have HB := n2_; clear n0_ n1_ n2_; (try clear hb); (try clear hb2); (try clear hk); (try clear hi); obtain ⟨hcz16_0, hcz16_1, hcz16_2, hcz16_3, hcz16_4, hfz16_0, hfz16_1, hfz16_2, hfz16_3, hfz16_4⟩ := b5 BK480.out; obtain ⟨Ao17, co17, eo17⟩ := Kd.R_slice HO485.out; subst eo17) | (go_at_call 15; (with_reducible refine (formula_Holds.calls k a0_0 a0_1 a0_2 a0_3 _ _ l0_4 _ _ t483 t487 _ ?side1 ?side2 ?side3 ?side4 A14.out).mono ?_); (case side1 => exact zC (Kd.C_below HR0_4.out HB.out)); (case side2 => exact HC0_4.out); (case side3 => exact zC (Kd.R_reads' HO485.out).2.2); (case side4 => exact (Kd.R_reads' HO485.out).2.1); rintro e w18 ⟨rfl, hb⟩; have n0_ := am (Kd.R_below (zR HO485.out) hb); have n1_ := am (blk_below (zB BK480.out) hb); have n2_ := am (below_step (zL HB.out) hb); clear HO485 BK480 HB; have HO485 := n0_; have BK480 := n1_; have HB := n2_; clear n0_ n1_ n2_; (try clear hb); (try clear hb2); (try clear hk); (try clear hi)))
    go_meet
    case rel => exact ⟨_, (!t487), (by first | rfl | (simp; done) | (simp [*]; done)), H', ⟨by first | omega | exact Nat.le_refl _⟩, ⟨by exact zR HO485.out⟩, ⟨by exact zB <| BK480.out⟩, ⟨by repeat (first | (with_reducible first | exact HB.out | apply ba | apply bd | apply be | refine below_set ?_ GE480.out) | exact HB.out)⟩⟩
   ·replace c13 := Bool.eq_false_iff.mpr c13
    subst c13
    have H1 : (clusterlockslaw08_FormulaMinimal.j0 k l1 t483 true a0_0 a0_1 a0_2 a0_3 l0_4) = some r := by rw [if_neg (show ¬ (false = true) by decide)] at H; exact H
    clear H
    have H := H1
    clear H1
    have H' := Aside0.mk H
    clear H
    go_wp2_with (first | ((with_reducible refine gate_callee (f := 14) rfl ?_); refine goesL_ (some 16) rfl rfl Try.func14 (by kernel_rfl) rfl #[] rfl mp0 ?_; (with_reducible refine (clusterlockslaw08_awake.calls k  false _ A12.out).mono ?_); rintro e w19 ⟨rfl, hb⟩; refine ⟨_, rfl, ?_⟩; have n0_ := am (Kd.R_below (zR HO485.out) hb); have n1_ := am (blk_below (zB BK480.out) hb); have n2_ := am (below_step (zL HB.out) hb); clear HO485 BK480 HB; have HO485 := n0_; have BK480 := n1_; have HB := n2_; clear n0_ n1_ n2_; (try clear hb); (try clear hb2); (try clear hk); (try clear hi)))
    go_meet
    case rel => exact ⟨_, (true), (by first | rfl | (simp; done) | (simp [*]; done)), H', ⟨by first | omega | exact Nat.le_refl _⟩, ⟨by exact zR HO485.out⟩, ⟨by exact zB <| BK480.out⟩, ⟨by repeat (first | (with_reducible first | exact HB.out | apply ba | apply bd | apply be | refine below_set ?_ GE480.out) | exact HB.out)⟩⟩
  case rest =>
   clear HC6
   try clear c1
   try clear c2
   try clear p2
   try clear c4
   try clear c8
   try clear c13
   try clear c14
   try clear c15
   try clear hcz10_0
   try clear hcz10_1
   try clear hcz10_2
   try clear hcz10_3
   try clear hcz10_4
   try clear hcz16_0
   try clear hcz16_1
   try clear hcz16_2
   try clear hcz16_3
   try clear hcz16_4
   try clear hcz8_0
   try clear hcz8_1
   try clear hcz8_2
   try clear hcz8_3
   try clear hcz8_4
   try clear hfz10_0
   try clear hfz10_1
   try clear hfz10_2
   try clear hfz10_3
   try clear hfz10_4
   try clear hfz16_0
   try clear hfz16_1
   try clear hfz16_2
   try clear hfz16_3
   try clear hfz16_4
   try clear hfz8_0
   try clear hfz8_1
   try clear hfz8_2
   try clear hfz8_3
   try clear hfz8_4
   obtain ⟨kq, x23_5, rfl, HA, HJ5, HO_5, BK480, HB⟩ := hcut
   cases kq with
   | zero => exact absurd HA.out (by simp [clusterlockslaw08_FormulaMinimal.j0])
   | succ kj5 =>
    have H := HA.out
    clear HA
    simp only [clusterlockslaw08_FormulaMinimal.j0] at H
    by_cases c20 : x23_5 = true
    ·subst c20
     have H1 : (none) = some r := by rw [if_pos rfl] at H; exact H
     clear H
     have H := H1
     clear H1
     exact absurd H (by simp)
    ·replace c20 := Bool.eq_false_iff.mpr c20
     subst c20
     have H1 : (clusterlockslaw08_FormulaMinimal.l0 kj5 l1 t483 0 a0_0 a0_1 a0_2 a0_3 l0_4) = some r := by rw [if_neg (show ¬ (false = true) by decide)] at H; exact H
     clear H
     have H := H1
     clear H1
     have H' := Aside0.mk H
     clear H
     go_wp2
     go_loopg [6] kj5 (fun kq v6 w' => ∃ (x5_2 : List Bool) (x6_2 : Int), v6 = .int .i64 x6_2 ∧ Aside0 (clusterlockslaw08_FormulaMinimal.l0 kq l1 x5_2 x6_2 a0_0 a0_1 a0_2 a0_3 l0_4 = some r) ∧ Aside0 (kq ≤ kj5) ∧ Aside0 (Kd.R Kd.bool 4 w' w.heap.size (fun _ => True) v484 x5_2) ∧ Aside0 (w'.heap[gb480]? = some (.cells #[.int .i64 a0_0, .string a0_1, .int .i64 a0_2, .int .i64 a0_3, (.slice A0_4 l0_4.length c0_4)] 28 (0, 0))) ∧ Aside0 (Below w.heap.size w w'))
     case atStart => exact ⟨(t483), (0), (by first | rfl | (simp; done) | (simp [*]; done)), H', ⟨Nat.le_refl _⟩, ⟨by exact zR HO_5.out⟩, ⟨by exact zB <| BK480.out⟩, ⟨by repeat (first | (with_reducible first | exact HB.out | apply ba | apply bd | apply be | refine below_set ?_ GE480.out) | exact HB.out)⟩⟩
     case round =>
      clear H'
      try clear c1
      try clear c2
      try clear p2
      try clear c4
      try clear c8
      try clear c13
      try clear c14
      try clear c15
      try clear c20
      try clear hcz10_0
      try clear hcz10_1
      try clear hcz10_2
      try clear hcz10_3
      try clear hcz10_4
      try clear hcz16_0
      try clear hcz16_1
      try clear hcz16_2
      try clear hcz16_3
      try clear hcz16_4
      try clear hcz8_0
      try clear hcz8_1
      try clear hcz8_2
      try clear hcz8_3
      try clear hcz8_4
      try clear hfz10_0
      try clear hfz10_1
      try clear hfz10_2
      try clear hfz10_3
      try clear hfz10_4
      try clear hfz16_0
      try clear hfz16_1
      try clear hfz16_2
      try clear hfz16_3
      try clear hfz16_4
      try clear hfz8_0
      try clear hfz8_1
      try clear hfz8_2
      try clear hfz8_3
      try clear hfz8_4
      try clear p2
      obtain ⟨x5_2, x6_2, rfl, HA, HK2, HO_5, BK480, HB⟩ := hrel
      cases gk with
      | zero => exact absurd HA.out (by simp [clusterlockslaw08_FormulaMinimal.l0])
      | succ k2 =>
       have H := HA.out
       clear HA
       simp only [clusterlockslaw08_FormulaMinimal.l0] at H
       by_cases c21 : x6_2 < (x5_2.length : Int)
       ·rw [if_pos c21] at H
        have c21b0 : decide (x6_2 < (x5_2.length : Int)) = true := decide_eq_true c21
        clear c21
        by_cases c22 : 0 ≤ x6_2
        ·rw [if_pos c22] at H
         have c22b0 : decide (0 ≤ x6_2) = true := decide_eq_true c22
         clear c22
         obtain ⟨bq23, hbq23⟩ : ∃ b_ : Bool, b_ = (rdOf false x5_2 x6_2) := ⟨_, rfl⟩
         replace H : (if bq23 = true then ((some (([] : List Bool) : List Bool)).bind fun y489 => (if y489.length + x5_2.length < 140737488355328 then ((some (y489 ++ x5_2 : List Bool)).bind fun y492 => (if x6_2 < (y492.length : Int) then (if x6_2 ≥ (l1.length : Int) then (none) else (if x6_2 < (l1.length : Int) then (if rdOf false l1 x6_2 = true then ((formula_Holds.f k2 a0_0 a0_1 a0_2 a0_3 l0_4 (y492.set (x6_2 : Int).toNat false)).bind fun t497 => (if t497 = true then (none) else (clusterlockslaw08_FormulaMinimal.l0 k2 l1 x5_2 (wrap64 (x6_2 + 1)) a0_0 a0_1 a0_2 a0_3 l0_4))) else (none)) else (none))) else (none))) else (none))) else (clusterlockslaw08_FormulaMinimal.l0 k2 l1 x5_2 (wrap64 (x6_2 + 1)) a0_0 a0_1 a0_2 a0_3 l0_4)) = some r := by rw [← hbq23] at H; exact H
         have Nbq23 := Aside0.mk hbq23
         clear hbq23
         by_cases c24 : bq23 = true
         ·subst c24
          have H1 : ((some (([] : List Bool) : List Bool)).bind fun y489 => (if y489.length + x5_2.length < 140737488355328 then ((some (y489 ++ x5_2 : List Bool)).bind fun y492 => (if x6_2 < (y492.length : Int) then (if x6_2 ≥ (l1.length : Int) then (none) else (if x6_2 < (l1.length : Int) then (if rdOf false l1 x6_2 = true then ((formula_Holds.f k2 a0_0 a0_1 a0_2 a0_3 l0_4 (y492.set (x6_2 : Int).toNat false)).bind fun t497 => (if t497 = true then (none) else (clusterlockslaw08_FormulaMinimal.l0 k2 l1 x5_2 (wrap64 (x6_2 + 1)) a0_0 a0_1 a0_2 a0_3 l0_4))) else (none)) else (none))) else (none))) else (none))) = some r := by rw [if_pos rfl] at H; exact H
          clear H
          have H := H1
          clear H1
          obtain ⟨y489, hy489⟩ : ∃ y_ : List Bool, y_ = (([] : List Bool)) := ⟨_, rfl⟩
          replace H : (if y489.length + x5_2.length < 140737488355328 then ((some (y489 ++ x5_2 : List Bool)).bind fun y492 => (if x6_2 < (y492.length : Int) then (if x6_2 ≥ (l1.length : Int) then (none) else (if x6_2 < (l1.length : Int) then (if rdOf false l1 x6_2 = true then ((formula_Holds.f k2 a0_0 a0_1 a0_2 a0_3 l0_4 (y492.set (x6_2 : Int).toNat false)).bind fun t497 => (if t497 = true then (none) else (clusterlockslaw08_FormulaMinimal.l0 k2 l1 x5_2 (wrap64 (x6_2 + 1)) a0_0 a0_1 a0_2 a0_3 l0_4))) else (none)) else (none))) else (none))) else (none)) = some r := by first | (rw [hy489]; with_reducible exact H) | (have H2_ := (Option.bind_some _ _).symm.trans H; rw [hy489]; with_reducible exact H2_) | (have H2_ := (Option.bind_some _ _).symm.trans H; with_reducible exact H2_) | with_reducible exact H | (rw [hy489]; exact H) | exact H
          have Ny489 := Aside0.mk hy489
          clear hy489
          by_cases c25 : y489.length + x5_2.length < 140737488355328
          ·rw [if_pos c25] at H
           have LMc25 := Aside0.mk c25
           clear c25
           obtain ⟨y492, hy492⟩ : ∃ y_ : List Bool, y_ = (y489 ++ x5_2) := ⟨_, rfl⟩
           replace H : (if x6_2 < (y492.length : Int) then (if x6_2 ≥ (l1.length : Int) then (none) else (if x6_2 < (l1.length : Int) then (if rdOf false l1 x6_2 = true then ((formula_Holds.f k2 a0_0 a0_1 a0_2 a0_3 l0_4 (y492.set (x6_2 : Int).toNat false)).bind fun t497 => (if t497 = true then (none) else (clusterlockslaw08_FormulaMinimal.l0 k2 l1 x5_2 (wrap64 (x6_2 + 1)) a0_0 a0_1 a0_2 a0_3 l0_4))) else (none)) else (none))) else (none)) = some r := by first | (rw [hy492]; with_reducible exact H) | (have H2_ := (Option.bind_some _ _).symm.trans H; rw [hy492]; with_reducible exact H2_) | (have H2_ := (Option.bind_some _ _).symm.trans H; with_reducible exact H2_) | with_reducible exact H | (rw [hy492]; exact H) | exact H
           have Ny492 := Aside0.mk hy492
           clear hy492
           by_cases c26 : x6_2 < (y492.length : Int)
           ·rw [if_pos c26] at H
            have c26b0 : decide (x6_2 < (y492.length : Int)) = true := decide_eq_true c26
            clear c26
            obtain ⟨y495, hy495⟩ : ∃ y_ : List Bool, y_ = (y492.set (x6_2 : Int).toNat false) := ⟨_, rfl⟩
            replace H : (if x6_2 ≥ (l1.length : Int) then (none) else (if x6_2 < (l1.length : Int) then (if rdOf false l1 x6_2 = true then ((formula_Holds.f k2 a0_0 a0_1 a0_2 a0_3 l0_4 y495).bind fun t497 => (if t497 = true then (none) else (clusterlockslaw08_FormulaMinimal.l0 k2 l1 x5_2 (wrap64 (x6_2 + 1)) a0_0 a0_1 a0_2 a0_3 l0_4))) else (none)) else (none))) = some r := by first | (rw [hy495]; with_reducible exact H) | (have H2_ := (Option.bind_some _ _).symm.trans H; rw [hy495]; with_reducible exact H2_) | (have H2_ := (Option.bind_some _ _).symm.trans H; with_reducible exact H2_) | with_reducible exact H | (rw [hy495]; exact H) | exact H
            have Ny495 := Aside0.mk hy495
            clear hy495
            by_cases c28 : x6_2 ≥ (l1.length : Int)
            ·rw [if_pos c28] at H
             exact absurd H (by simp)
            ·rw [if_neg c28] at H
             have c28b0 : decide ((l1.length : Int) ≤ x6_2) = false := decide_eq_false c28
             clear c28
             by_cases c29 : x6_2 < (l1.length : Int)
             ·rw [if_pos c29] at H
              have c29b0 : decide (x6_2 < (l1.length : Int)) = true := decide_eq_true c29
              clear c29
              obtain ⟨bq30, hbq30⟩ : ∃ b_ : Bool, b_ = (rdOf false l1 x6_2) := ⟨_, rfl⟩
              replace H : (if bq30 = true then ((formula_Holds.f k2 a0_0 a0_1 a0_2 a0_3 l0_4 y495).bind fun t497 => (if t497 = true then (none) else (clusterlockslaw08_FormulaMinimal.l0 k2 l1 x5_2 (wrap64 (x6_2 + 1)) a0_0 a0_1 a0_2 a0_3 l0_4))) else (none)) = some r := by rw [← hbq30] at H; exact H
              have Nbq30 := Aside0.mk hbq30
              clear hbq30
              by_cases c31 : bq30 = true
              ·subst c31
               have H1 : ((formula_Holds.f k2 a0_0 a0_1 a0_2 a0_3 l0_4 y495).bind fun t497 => (if t497 = true then (none) else (clusterlockslaw08_FormulaMinimal.l0 k2 l1 x5_2 (wrap64 (x6_2 + 1)) a0_0 a0_1 a0_2 a0_3 l0_4))) = some r := by rw [if_pos rfl] at H; exact H
               clear H
               have H := H1
               clear H1
               replace H := Option.bind_eq_some_iff.mp H
               obtain ⟨t497, A320, H⟩ := H
               replace H : (if t497 = true then (none) else (clusterlockslaw08_FormulaMinimal.l0 k2 l1 x5_2 (wrap64 (x6_2 + 1)) a0_0 a0_1 a0_2 a0_3 l0_4)) = some r := H
               have A32 := Aside0.mk A320
               clear A320
               by_cases c33 : t497 = true
               ·subst c33
                have H1 : (none) = some r := by rw [if_pos rfl] at H; exact H
                clear H
                have H := H1
                clear H1
                exact absurd H (by simp)
               ·replace c33 := Bool.eq_false_iff.mpr c33
                subst c33
                have H1 : (clusterlockslaw08_FormulaMinimal.l0 k2 l1 x5_2 (wrap64 (x6_2 + 1)) a0_0 a0_1 a0_2 a0_3 l0_4) = some r := by rw [if_neg (show ¬ (false = true) by decide)] at H; exact H
                clear H
                have H := H1
                clear H1
                have H' := Aside0.mk H
                clear H
                obtain ⟨Ao34, co34, eo34⟩ := Kd.R_slice HO_5.out
                subst eo34
                have p488 : 0 ≤ (x6_2 : Int) := of_decide_eq_true (by first | (with_reducible assumption) | assumption)
                have q488 : x6_2 < (x5_2.length : Int) := of_decide_eq_true (by first | (with_reducible assumption) | assumption)
                obtain ⟨ad488, e488, hx488_0⟩ := Kd.at_bool (Kd.R_reads' HO_5.out).2.2 x6_2 p488 q488
                (try rw [← Nbq23.out] at hx488_0)
                (try rw [← Nbq30.out] at hx488_0)
                cases e488
                replace p488 := eq_true p488
                replace q488 := eq_true q488
                go_wp2_with (first | ((with_reducible refine gate_dst (N := 35) rfl ?_); refine Kd.R_lit Kd.bool _ 4 ?hg (N := 35) ?hd (xs := ([] : List Bool)) (inner := []) (ok := fun _ => True) (okp := fun _ => True) ?hr ?hp (fun _ hk => hk) trivial (Below.refl _ _) (Nat.le_refl _) (by simp) ?_; (case hd => rfl); (case hg => rfl); (case hr => first | (go_simp; done) | (go_simp; rfl)); (case hp => exact (Reps.none _ _)); intro v490 w35 ho36 hb hg_ hnew_; clear hg_ hnew_; (first | rw [← Ny489.out] at ho36 | (simp only [Int.reduceToNat] at ho36; rw [← Ny489.out] at ho36)); have n0_ := am (Kd.R_elder' (zR HO_5.out) (Kd.R_base ho36) hb); have n1_ := am (Kd.R_lower (Kd.R_new' ho36 (Kd.R_lt (zR HO_5.out))) (below_size (zL HB.out))); have n2_ := am (blk_below (zB BK480.out) hb); have n3_ := am (below_step (zL HB.out) hb); clear HO_5 BK480 HB; have HO_5 := n0_; have HO491 := n1_; have BK480 := n2_; have HB := n3_; clear n0_ n1_ n2_ n3_; clear hb ho36) | ((with_reducible refine gate_builtin (b := .append) (xs := #[.tmp 35, .tmp 36]) rfl ?_); at_builtin; refine Kd.R_append_rows Kd.bool (w0 := w) w.heap.size rfl (.tmp 35) (.tmp 36) 33 4 (.bool false) 1 rfl Try.underlying33 info4 rfl (by decide) (by omega) v490 y489 x5_2 _ _ _ (fun k_ => some k_ ≠ (.slice (some ad488) x5_2.length co34 : Value).ownBlock) (fun _ => False) rfl rfl ?aO ?aR (fun _ _ h => h) (fun _ h => h.elim) ?aF ?aB ?aS ?aL ?_; (case aR => exact zC (Kd.R_reads' HO_5.out).2.2); (case aB => exact (zL HB.out)); (case aF => exact (fun k_ hk => Kd.fresh' (Kd.R_lt (zR HO_5.out)) k_ hk)); (case aO => exact (by exact zR <| Kd.R_mono HO491.out (fun _ hk => hk.2))); (case aS => exact (below_size (zL HB.out))); (case aL => have := LMc25.out; omega); intro v493 w37 ho hb hg hat; rw [← Ny492.out] at ho; have n0_ := am (Kd.R_after (ok := (fun _ => True)) (zR HO_5.out) hg hat); have n1_ := am (blk_grown (g := gb480) (o := .cells #[.int .i64 a0_0, .string a0_1, .int .i64 a0_2, .int .i64 a0_3, .slice A0_4 l0_4.length c0_4] 28 (0, 0)) (zB BK480.out) hg (Kd.R_ne HO491.out BK480.out (by decide))); have n2_ := am (hb); have n3_ := am (ho); clear HO_5 BK480 HB HO491; have HO_5 := n0_; have BK480 := n1_; have HB := n2_; have HO494 := n3_; clear n0_ n1_ n2_ n3_; clear ho hb hg hat; have p27 : 0 ≤ (x6_2 : Int) := of_decide_eq_true (by first | (with_reducible assumption) | assumption); have q27 : (x6_2 : Int) < ((y492.length : Int) : Int) := of_decide_eq_true (by first | (with_reducible assumption) | assumption); obtain ⟨go27, co27, eo27, gb27, gl27, cl27, HG27⟩ := Kd.R_form HO494.out (by omega); (first | cases eo27 | (injection eo27 with ea_ en_ ec_; (first | subst ea_ | (injection ea_ with ea_; subst ea_)); subst ec_; clear en_)); have GB27 := Aside0.mk gb27; have GG27 := Aside0.mk HG27; clear gb27 gl27 HG27; obtain ⟨hx27_0, hf27_0⟩ := Kd.R_celln false HO494.out (x6_2 : Int) p27 q27; replace p27 := eq_true p27; replace q27 := eq_true q27; obtain ⟨hy38_, hz38_⟩ := Kd.R_celln false HO494.out (x6_2 : Int) (of_decide_eq_true (by first | (with_reducible assumption) | assumption)) (of_decide_eq_true (by first | (with_reducible assumption) | assumption)); have HP38 := Kd.R_putg HO494.out (x6_2 : Int) false) | ((with_reducible refine gate_store (t := 4) (p := 40) rfl ?_); refine store_event (t := 4) (p := 40) (v := ?vo_w39) (w1 := (w37.setCell ⟨go27, (x6_2 : Int).toNat, none⟩ (.bool false))) ?hg ?ho ?hn ?hr ?_; (case ho => rfl); (case hg => rfl); (case hn => rfl); (case hr => first | (go_simp; done) | (go_simp; rfl)); intro w39 hw; have hg : w37.grownBy w39 (some go27) := (by rw [hw]; exact HP38.2); have hp_ : Kd.R Kd.bool 4 w39 w.heap.size (fun k_ => some k_ ≠ (.slice (some ad488) x5_2.length co34 : Value).ownBlock) (.slice (some ⟨go27, 0, none⟩) y492.length co27) y495 := (by rw [hw, Ny495.out]; exact HP38.1); clear HP38; have n0_ := am (Kd.R_after (v := (.slice (some ⟨go27, 0, none⟩) y492.length co27)) (v1 := (.slice (some ⟨go27, 0, none⟩) y492.length co27)) (ok := (fun _ => True)) (zR HO_5.out) hg (.inl rfl)); have n1_ := am (blk_grown (g := gb480) (o := .cells #[.int .i64 a0_0, .string a0_1, .int .i64 a0_2, .int .i64 a0_3, .slice A0_4 l0_4.length c0_4] 28 (0, 0)) (zB BK480.out) hg (Kd.R_ne HO494.out BK480.out (by decide))); have n2_ := am (hp_); have n3_ := am ((by rw [hw]; exact below_set (HB.out) GB27.out : Below w.heap.size w w39)); clear HO_5 BK480 HO494 HB; have HO_5 := n0_; have BK480 := n1_; have HO494 := n2_; have HB := n3_; clear n0_ n1_ n2_ n3_; clear hg hw hp_; have p496 : 0 ≤ (x6_2 : Int) := of_decide_eq_true (by first | (with_reducible assumption) | assumption); have q496 : x6_2 < (l1.length : Int) := of_decide_eq_true (by first | (with_reducible assumption) | assumption); obtain ⟨ad496, e496, hx496_0⟩ := Kd.at_bool HR1.out x6_2 p496 q496; (try rw [← Nbq23.out] at hx496_0); (try rw [← Nbq30.out] at hx496_0); cases e496; replace hx496_0 := (HB.out.cell (World.block_lt_of_cell? w _ hx496_0)).trans hx496_0; replace p496 := eq_true p496; replace q496 := eq_true q496; obtain ⟨hcz40_0, hcz40_1, hcz40_2, hcz40_3, hcz40_4, hfz40_0, hfz40_1, hfz40_2, hfz40_3, hfz40_4⟩ := b5 BK480.out) | (go_at_call 15; refine calls_of_args (args' := #[.agg #[.int .i64 a0_0, .string a0_1, .int .i64 a0_2, .int .i64 a0_3, .slice A0_4 l0_4.length c0_4], .slice (some ⟨go27, 0, none⟩) y495.length co27]) (by first | (rw [show y495.length = y492.length from (Kd.R_reads' HO494.out).1.symm] <;> rfl) | rfl) ?_; (with_reducible refine (formula_Holds.calls k2 a0_0 a0_1 a0_2 a0_3 _ _ l0_4 _ _ y495 false _ ?side1 ?side2 ?side3 ?side4 A32.out).mono ?_); (case side1 => exact zC (Kd.C_below HR0_4.out HB.out)); (case side2 => exact HC0_4.out); (case side3 => exact zC (Kd.R_reads' HO494.out).2.2); (case side4 => rw [show y495.length = y492.length from (Kd.R_reads' HO494.out).1.symm]; exact (Kd.R_reads' HO494.out).2.1); rintro e w41 ⟨rfl, hb⟩; have n0_ := am (Kd.R_below (zR HO_5.out) hb); have n1_ := am (Kd.R_below (zR HO494.out) hb); have n2_ := am (blk_below (zB BK480.out) hb); have n3_ := am (below_step (zL HB.out) hb); clear HO_5 HO494 BK480 HB; have HO_5 := n0_; have HO494 := n1_; have BK480 := n2_; have HB := n3_; clear n0_ n1_ n2_ n3_; (try clear hb); (try clear hb2); (try clear hk); (try clear hi)))
                go_roundg k2
                case measure => have := HJ5.out; have := HK2.out; omega
                case rel => exact ⟨(x5_2), (wrap64 (x6_2 + 1)), (by first | rfl | (simp; done) | (simp [*]; done)), H', ⟨by have := HJ5.out; have := HK2.out; omega⟩, ⟨by exact zR <| Kd.R_mono HO_5.out (fun _ hk => trivial)⟩, ⟨by exact zB <| BK480.out⟩, ⟨by repeat (first | (with_reducible first | exact HB.out | apply ba | apply bd | apply be | refine below_set ?_ GE480.out) | exact HB.out)⟩⟩
              ·replace c31 := Bool.eq_false_iff.mpr c31
               subst c31
               have H1 : (none) = some r := by rw [if_neg (show ¬ (false = true) by decide)] at H; exact H
               clear H
               have H := H1
               clear H1
               exact absurd H (by simp)
             ·rw [if_neg c29] at H
              exact absurd H (by simp)
           ·rw [if_neg c26] at H
            exact absurd H (by simp)
          ·rw [if_neg c25] at H
           exact absurd H (by simp)
         ·replace c24 := Bool.eq_false_iff.mpr c24
          subst c24
          have H1 : (clusterlockslaw08_FormulaMinimal.l0 k2 l1 x5_2 (wrap64 (x6_2 + 1)) a0_0 a0_1 a0_2 a0_3 l0_4) = some r := by rw [if_neg (show ¬ (false = true) by decide)] at H; exact H
          clear H
          have H := H1
          clear H1
          have H' := Aside0.mk H
          clear H
          obtain ⟨Ao42, co42, eo42⟩ := Kd.R_slice HO_5.out
          subst eo42
          have p488 : 0 ≤ (x6_2 : Int) := of_decide_eq_true (by first | (with_reducible assumption) | assumption)
          have q488 : x6_2 < (x5_2.length : Int) := of_decide_eq_true (by first | (with_reducible assumption) | assumption)
          obtain ⟨ad488, e488, hx488_0⟩ := Kd.at_bool (Kd.R_reads' HO_5.out).2.2 x6_2 p488 q488
          (try rw [← Nbq23.out] at hx488_0)
          cases e488
          replace p488 := eq_true p488
          replace q488 := eq_true q488
          go_wp2
          go_roundg k2
          case measure => have := HJ5.out; have := HK2.out; omega
          case rel => exact ⟨(x5_2), (wrap64 (x6_2 + 1)), (by first | rfl | (simp; done) | (simp [*]; done)), H', ⟨by have := HJ5.out; have := HK2.out; omega⟩, ⟨by exact zR HO_5.out⟩, ⟨by exact zB <| BK480.out⟩, ⟨by repeat (first | (with_reducible first | exact HB.out | apply ba | apply bd | apply be | refine below_set ?_ GE480.out) | exact HB.out)⟩⟩
        ·rw [if_neg c22] at H
         exact absurd H (by simp)
       ·rw [if_neg c21] at H
        have c21b0 : decide (x6_2 < (x5_2.length : Int)) = false := decide_eq_false c21
        clear c21
        obtain rfl := Option.some.inj H
        obtain ⟨Ao43, co43, eo43⟩ := Kd.R_slice HO_5.out
        subst eo43
        go_wp2
        go_ret
        exact ⟨by first | rfl | (simp [errW_none, errW_some] <;> rfl) | (simp [*, errW_none, errW_some] <;> rfl), by repeat (first | (with_reducible first | exact HB.out | apply ba | apply bd | apply be | refine below_set ?_ GE480.out) | exact HB.out)⟩
 ·replace c4 := Bool.eq_false_iff.mpr c4
  subst c4
  have H1 : ((clusterlockslaw08_awake.f k).bind fun t482 => (some t482)) = some r := by rw [if_neg (show ¬ (false = true) by decide)] at H; exact H
  clear H
  have H := H1
  clear H1
  replace H := Option.bind_eq_some_iff.mp H
  obtain ⟨t482, A440, H⟩ := H
  replace H : (some t482) = some r := H
  have A44 := Aside0.mk A440
  clear A440
  obtain rfl := Option.some.inj H
  go_enter Try.func8, Try.ntmps8
  go_wp2_with (first | ((with_reducible refine gate_dst (N := 2) rfl ?_); refine box_event ?hg (N := 2) ?hd (cs := #[.int .i64 a0_0, .string a0_1, .int .i64 a0_2, .int .i64 a0_3, .slice A0_4 l0_4.length c0_4]) (t := 28) ?hr ?_; (case hd => rfl); (case hg => rfl); (case hr => first | (go_simp; done) | (go_simp; rfl)); intro gb480 hg w45 hbox hb; have n0_ := am (below_step (zL HB.out) hb); have n1_ := am (hbox); have n2_ := am (zS hg HB.out); have n3_ := am (zS hg HB.out); clear HB; have HB := n0_; have BK480 := n1_; have GW480 := n2_; have GE480 := n3_; clear n0_ n1_ n2_ n3_; clear hb hbox hg; obtain ⟨hcz46_0, hcz46_1, hcz46_2, hcz46_3, hcz46_4, hfz46_0, hfz46_1, hfz46_2, hfz46_3, hfz46_4⟩ := b5 BK480.out) | ((with_reducible refine gate_callee (f := 15) rfl ?_); refine goesL_ (some 10) rfl rfl Try.func15 (by kernel_rfl) rfl #[.agg #[.int .i64 a0_0, .string a0_1, .int .i64 a0_2, .int .i64 a0_3, .slice A0_4 l0_4.length c0_4], .slice A1 l1.length c1] rfl mp2 ?_; (with_reducible refine (formula_Holds.calls k a0_0 a0_1 a0_2 a0_3 _ _ l0_4 _ _ l1 false _ ?side1 ?side2 ?side3 ?side4 A3.out).mono ?_); (case side1 => exact zC (Kd.C_below HR0_4.out HB.out)); (case side2 => exact HC0_4.out); (case side3 => exact zC (Kd.C_below HR1.out HB.out)); (case side4 => exact HC1.out); rintro e w47 ⟨rfl, hb⟩; refine ⟨_, rfl, ?_⟩; have n0_ := am (blk_below (zB BK480.out) hb); have n1_ := am (below_step (zL HB.out) hb); clear BK480 HB; have BK480 := n0_; have HB := n1_; clear n0_ n1_; (try clear hb); (try clear hb2); (try clear hk); (try clear hi)) | ((with_reducible refine gate_callee (f := 14) rfl ?_); refine goesL_ (some 12) rfl rfl Try.func14 (by kernel_rfl) rfl #[] rfl mp0 ?_; (with_reducible refine (clusterlockslaw08_awake.calls k  t482 _ A44.out).mono ?_); rintro e w48 ⟨rfl, hb⟩; refine ⟨_, rfl, ?_⟩; have n0_ := am (blk_below (zB BK480.out) hb); have n1_ := am (below_step (zL HB.out) hb); clear BK480 HB; have BK480 := n0_; have HB := n1_; clear n0_ n1_; (try clear hb); (try clear hb2); (try clear hk); (try clear hi)))
  go_ret
  exact ⟨by first | rfl | (simp [errW_none, errW_some] <;> rfl) | (simp [*, errW_none, errW_some] <;> rfl), by repeat (first | (with_reducible first | exact HB.out | apply ba | apply bd | apply be | refine below_set ?_ GE480.out) | exact HB.out)⟩

end Go.Proofs.Ytefbcebpokoinaa.Y

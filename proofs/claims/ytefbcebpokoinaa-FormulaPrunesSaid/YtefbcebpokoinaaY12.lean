-- Laid by a program of this session's (xprint.py, which runs the kit's print.py with patches of its own). Lean checks it.
import Derived.Test.YtefbcebpokoinaaY0
import Derived.Test.YtefbcebpokoinaaY1
import Derived.Test.YtefbcebpokoinaaY8
namespace Go.Proofs.Ytefbcebpokoinaa.Y
open Go.RowKit Go.Proofs.YtefbcebpokoinaaW.PrintWords Go.Proofs.YtefbcebpokoinaaW.PrintLast Go.Proofs.YtefbcebpokoinaaW.PrintMore
attribute [local go_sem] max2_int min2_int max_two min_two max_three min_three max_four min_four   -- for this text's walks alone
set_option linter.unusedVariables false
set_option linter.unusedSimpArgs false

attribute [local go_sem high] eqA25
/-! ### clusterlocksref08_holds: function 34 -/
mutual
def clusterlocksref08_holds.l0 : Nat → List (S25) → List Bool → Int → Int → ByteArray → Int → Int → List (S28) → Option (Bool)
 | 0, _, _, _, _, _, _, _, _ => none
 | k + 1, x1, x2, x7, x285000, x285001, x285002, x285003, x285004 => if x7 < (x1.length : Int) then (if 0 ≤ x7 then (if ((((rd_T25 x1 x7).f0).toList) == x285001.toList && ((((rd_T25 x1 x7).f1.f0) == x285002 && (((rd_T25 x1 x7).f1.f1) == x285003)))) = true then (if x7 < (x2.length : Int) then (some (rdOf false x2 x7)) else (some false)) else (clusterlocksref08_holds.l0 k x1 x2 (wrap64 (x7 + 1)) x285000 x285001 x285002 x285003 x285004)) else (none)) else (some false)
def clusterlocksref08_holds.l1 : Nat → List (S25) → List Bool → Int → Int → Int → ByteArray → Int → Int → List (S28) → Option (Bool)
 | 0, _, _, _, _, _, _, _, _, _ => none
 | k + 1, x1, x2, x8, x9, x285000, x285001, x285002, x285003, x285004 => if x9 < (x285004.length : Int) then (if 0 ≤ x9 then ((clusterlocksref08_holds.f k ((rd_T28 x285004 x9).f0) ((rd_T28 x285004 x9).f1.f0) ((rd_T28 x285004 x9).f1.f1.f0) ((rd_T28 x285004 x9).f1.f1.f1) ((rd_T28 x285004 x9).f2) x1 x2).bind fun t288 => (if t288 = true then (clusterlocksref08_holds.l1 k x1 x2 (wrap64 (x8 + 1)) (wrap64 (x9 + 1)) x285000 x285001 x285002 x285003 x285004) else (clusterlocksref08_holds.l1 k x1 x2 x8 (wrap64 (x9 + 1)) x285000 x285001 x285002 x285003 x285004))) else (none)) else (some (decide (x8 ≥ x285000)))
def clusterlocksref08_holds.f : Nat → Int → ByteArray → Int → Int → List (S28) → List (S25) → List Bool → Option (Bool)
 | 0, _, _, _, _, _, _, _ => none
 | k + 1, a0_0, a0_1, a0_2, a0_3, l0_4, l1, l2 => if a0_0 = 0 then (clusterlocksref08_holds.l0 k l1 l2 0 a0_0 a0_1 a0_2 a0_3 l0_4) else (clusterlocksref08_holds.l1 k l1 l2 0 0 a0_0 a0_1 a0_2 a0_3 l0_4)
end
theorem clusterlocksref08_holds.mono_l : ∀ k, (∀ y0 y1 y2 y3 y4 y5 y6, LeO (clusterlocksref08_holds.f k y0 y1 y2 y3 y4 y5 y6) (clusterlocksref08_holds.f (k + 1) y0 y1 y2 y3 y4 y5 y6)) ∧ (∀ y0 y1 y2 y3 y4 y5 y6 y7, LeO (clusterlocksref08_holds.l0 k y0 y1 y2 y3 y4 y5 y6 y7) (clusterlocksref08_holds.l0 (k + 1) y0 y1 y2 y3 y4 y5 y6 y7)) ∧ (∀ y0 y1 y2 y3 y4 y5 y6 y7 y8, LeO (clusterlocksref08_holds.l1 k y0 y1 y2 y3 y4 y5 y6 y7 y8) (clusterlocksref08_holds.l1 (k + 1) y0 y1 y2 y3 y4 y5 y6 y7 y8))
 | 0 => ⟨fun _ _ _ _ _ _ _ r h => by simp [clusterlocksref08_holds.f] at h, fun _ _ _ _ _ _ _ _ r h => by simp [clusterlocksref08_holds.l0] at h, fun _ _ _ _ _ _ _ _ _ r h => by simp [clusterlocksref08_holds.l1] at h⟩
 | k + 1 => by
  obtain ⟨ih0, ih1, ih2⟩ := clusterlocksref08_holds.mono_l k
  refine ⟨?_, ?_, ?_⟩
  ·intro y0 y1 y2 y3 y4 y5 y6
   unfold clusterlocksref08_holds.f
   repeat' first
   | (with_reducible exact ih0 _ _ _ _ _ _ _)
   | (with_reducible exact ih1 _ _ _ _ _ _ _ _)
   | (with_reducible exact ih2 _ _ _ _ _ _ _ _ _)
   | (with_reducible exact LeO.refl _)
   | (with_reducible exact LeO.none _)
   | (with_reducible refine LeO.ite ?_ ?_)
   | (with_reducible refine LeO.bind ?_ (fun _ => ?_))
   | exact ih0 _ _ _ _ _ _ _
   | exact ih1 _ _ _ _ _ _ _ _
   | exact ih2 _ _ _ _ _ _ _ _ _
   | exact LeO.none _
   | refine LeO.ite ?_ ?_
   | refine LeO.bind ?_ (fun _ => ?_)
  ·intro y0 y1 y2 y3 y4 y5 y6 y7
   unfold clusterlocksref08_holds.l0
   repeat' first
   | (with_reducible exact ih0 _ _ _ _ _ _ _)
   | (with_reducible exact ih1 _ _ _ _ _ _ _ _)
   | (with_reducible exact ih2 _ _ _ _ _ _ _ _ _)
   | (with_reducible exact LeO.refl _)
   | (with_reducible exact LeO.none _)
   | (with_reducible refine LeO.ite ?_ ?_)
   | (with_reducible refine LeO.bind ?_ (fun _ => ?_))
   | exact ih0 _ _ _ _ _ _ _
   | exact ih1 _ _ _ _ _ _ _ _
   | exact ih2 _ _ _ _ _ _ _ _ _
   | exact LeO.none _
   | refine LeO.ite ?_ ?_
   | refine LeO.bind ?_ (fun _ => ?_)
  ·intro y0 y1 y2 y3 y4 y5 y6 y7 y8
   unfold clusterlocksref08_holds.l1
   repeat' first
   | (with_reducible exact ih0 _ _ _ _ _ _ _)
   | (with_reducible exact ih1 _ _ _ _ _ _ _ _)
   | (with_reducible exact ih2 _ _ _ _ _ _ _ _ _)
   | (with_reducible exact LeO.refl _)
   | (with_reducible exact LeO.none _)
   | (with_reducible refine LeO.ite ?_ ?_)
   | (with_reducible refine LeO.bind ?_ (fun _ => ?_))
   | exact ih0 _ _ _ _ _ _ _
   | exact ih1 _ _ _ _ _ _ _ _
   | exact ih2 _ _ _ _ _ _ _ _ _
   | exact LeO.none _
   | refine LeO.ite ?_ ?_
   | refine LeO.bind ?_ (fun _ => ?_)
theorem clusterlocksref08_holds.mono : ∀ a0 a1 a2 a3 a4 a5 a6 k, LeO (clusterlocksref08_holds.f k a0 a1 a2 a3 a4 a5 a6) (clusterlocksref08_holds.f (k + 1) a0 a1 a2 a3 a4 a5 a6) := by
 intro a0 a1 a2 a3 a4 a5 a6 k
 obtain ⟨ih0, ih1, ih2⟩ := clusterlocksref08_holds.mono_l k
 exact ih0 a0 a1 a2 a3 a4 a5 a6
set_option maxHeartbeats 8000000 in
set_option maxRecDepth 100000 in
theorem clusterlocksref08_holds.calls (k : Nat) : ∀ (a0_0 : Int) (a0_1 : ByteArray) (a0_2 : Int) (a0_3 : Int) (A0_4 : Option Addr) (c0_4 : Nat) (l0_4 : List (S28)) (A1 : Option Addr) (c1 : Nat) (l1 : List (S25)) (A2 : Option Addr) (c2 : Nat) (l2 : List Bool) (r : Bool) (w : World) (hr0_4 : Kd.C k28 w A0_4 l0_4.length l0_4) (hc0_4 : l0_4.length ≤ c0_4) (hr1 : Kd.C k25 w A1 l1.length l1) (hc1 : l1.length ≤ c1) (hr2 : Kd.C Kd.bool w A2 l2.length l2) (hc2 : l2.length ≤ c2) (h : clusterlocksref08_holds.f k a0_0 a0_1 a0_2 a0_3 l0_4 l1 l2 = some r),
  Calls Try.prog 34 #[.agg #[.int .i64 a0_0, .string a0_1, .int .i64 a0_2, .int .i64 a0_3, .slice A0_4 l0_4.length c0_4], .slice A1 l1.length c1, .slice A2 l2.length c2] w fun e w' => e = .returned (.bool r) ∧ Below w.heap.size w w' := by
 induction k using Nat.strongRecOn with
 | _ k ih =>
 intro a0_0 a0_1 a0_2 a0_3 A0_4 c0_4 l0_4 A1 c1 l1 A2 c2 l2 r w hr0_4 hc0_4 hr1 hc1 hr2 hc2 h
 cases k with
 | zero => exact absurd h (by simp [clusterlocksref08_holds.f])
 | succ k =>
 simp only [clusterlocksref08_holds.f] at h
 have hu28 := Try.underlying28
 have hu25 := Try.underlying25
 have HR0_4 := Aside0.mk hr0_4
 have HC0_4 := Aside0.mk hc0_4
 clear hr0_4 hc0_4
 have HR1 := Aside0.mk hr1
 have HC1 := Aside0.mk hc1
 clear hr1 hc1
 have HR2 := Aside0.mk hr2
 have HC2 := Aside0.mk hc2
 clear hr2 hc2
 have HB := am (Below.refl w.heap.size w)
 have H : (if a0_0 = 0 then (clusterlocksref08_holds.l0 k l1 l2 0 a0_0 a0_1 a0_2 a0_3 l0_4) else (clusterlocksref08_holds.l1 k l1 l2 0 0 a0_0 a0_1 a0_2 a0_3 l0_4)) = some r := h
 clear h
 by_cases c4 : a0_0 = 0
 ·rw [if_pos c4] at H
  have c4b0 : (a0_0 == 0) = true := beq_iff_eq.mpr c4
  have c4b1 : (a0_0 != 0) = false := bne_eq_false_iff_eq.mpr c4
  clear c4
  have H' := Aside0.mk H
  clear H
  go_enter Try.func34, Try.ntmps34
  go_wp2_with (first | ((with_reducible refine gate_dst (N := 3) rfl ?_); refine box_event ?hg (N := 3) ?hd (cs := #[.int .i64 a0_0, .string a0_1, .int .i64 a0_2, .int .i64 a0_3, .slice A0_4 l0_4.length c0_4]) (t := 28) ?hr ?_; (case hd => rfl); (case hg => rfl); (case hr => first | (go_simp; done) | (go_simp; rfl)); intro gb284 hg w5 hbox hb; have n0_ := am (below_step (zL HB.out) hb); have n1_ := am (hbox); have n2_ := am (zS hg HB.out); have n3_ := am (zS hg HB.out); clear HB; have HB := n0_; have BK284 := n1_; have GW284 := n2_; have GE284 := n3_; clear n0_ n1_ n2_ n3_; clear hb hbox hg; obtain ⟨hcz6_0, hcz6_1, hcz6_2, hcz6_3, hcz6_4, hfz6_0, hfz6_1, hfz6_2, hfz6_3, hfz6_4⟩ := b5 BK284.out))
  repeat (go_quiet (first | ((with_reducible refine gate_dst (N := 3) rfl ?_); refine box_event ?hg (N := 3) ?hd (cs := #[.int .i64 a0_0, .string a0_1, .int .i64 a0_2, .int .i64 a0_3, .slice A0_4 l0_4.length c0_4]) (t := 28) ?hr ?_; (case hd => rfl); (case hg => rfl); (case hr => first | (go_simp; done) | (go_simp; rfl)); intro gb284 hg w5 hbox hb; have n0_ := am (below_step (zL HB.out) hb); have n1_ := am (hbox); have n2_ := am (zS hg HB.out); have n3_ := am (zS hg HB.out); clear HB; have HB := n0_; have BK284 := n1_; have GW284 := n2_; have GE284 := n3_; clear n0_ n1_ n2_ n3_; clear hb hbox hg; obtain ⟨hcz6_0, hcz6_1, hcz6_2, hcz6_3, hcz6_4, hfz6_0, hfz6_1, hfz6_2, hfz6_3, hfz6_4⟩ := b5 BK284.out)); try go_wp2_with (first | ((with_reducible refine gate_dst (N := 3) rfl ?_); refine box_event ?hg (N := 3) ?hd (cs := #[.int .i64 a0_0, .string a0_1, .int .i64 a0_2, .int .i64 a0_3, .slice A0_4 l0_4.length c0_4]) (t := 28) ?hr ?_; (case hd => rfl); (case hg => rfl); (case hr => first | (go_simp; done) | (go_simp; rfl)); intro gb284 hg w5 hbox hb; have n0_ := am (below_step (zL HB.out) hb); have n1_ := am (hbox); have n2_ := am (zS hg HB.out); have n3_ := am (zS hg HB.out); clear HB; have HB := n0_; have BK284 := n1_; have GW284 := n2_; have GE284 := n3_; clear n0_ n1_ n2_ n3_; clear hb hbox hg; obtain ⟨hcz6_0, hcz6_1, hcz6_2, hcz6_3, hcz6_4, hfz6_0, hfz6_1, hfz6_2, hfz6_3, hfz6_4⟩ := b5 BK284.out)))
  go_loopg [7] k (fun kq v7 w' => ∃ (x7_1 : Int), v7 = .int .i64 x7_1 ∧ Aside0 (clusterlocksref08_holds.l0 kq l1 l2 x7_1 a0_0 a0_1 a0_2 a0_3 l0_4 = some r) ∧ Aside0 (kq ≤ k) ∧ Aside0 (w'.heap[gb284]? = some (.cells #[.int .i64 a0_0, .string a0_1, .int .i64 a0_2, .int .i64 a0_3, (.slice A0_4 l0_4.length c0_4)] 28 (0, 0))) ∧ Aside0 (Below w.heap.size w w'))
  case atStart => exact ⟨(0), (by first | rfl | (simp; done) | (simp [*]; done)), H', ⟨Nat.le_refl _⟩, ⟨by exact zB <| BK284.out⟩, ⟨by repeat (first | (with_reducible first | exact HB.out | apply ba | apply bd | apply be | refine below_set ?_ GE284.out) | exact HB.out)⟩⟩
  case round =>
   clear H'
   try clear c1
   try clear c2
   try clear p2
   try clear c3
   try clear c4
   try clear c4b0
   try clear c4b1
   try clear hcz6_0
   try clear hcz6_1
   try clear hcz6_2
   try clear hcz6_3
   try clear hcz6_4
   try clear hfz6_0
   try clear hfz6_1
   try clear hfz6_2
   try clear hfz6_3
   try clear hfz6_4
   obtain ⟨x7_1, rfl, HA, HK1, BK284, HB⟩ := hrel
   cases gk with
   | zero => exact absurd HA.out (by simp [clusterlocksref08_holds.l0])
   | succ k1 =>
    have H := HA.out
    clear HA
    simp only [clusterlocksref08_holds.l0] at H
    by_cases c7 : x7_1 < (l1.length : Int)
    ·rw [if_pos c7] at H
     have c7b0 : decide (x7_1 < (l1.length : Int)) = true := decide_eq_true c7
     clear c7
     by_cases c8 : 0 ≤ x7_1
     ·rw [if_pos c8] at H
      have c8b0 : decide (0 ≤ x7_1) = true := decide_eq_true c8
      clear c8
      by_cases c9 : ((((rd_T25 l1 x7_1).f0).toList) == a0_1.toList && ((((rd_T25 l1 x7_1).f1.f0) == a0_2 && (((rd_T25 l1 x7_1).f1.f1) == a0_3)))) = true
      ·rw [if_pos c9] at H
       have c9b0 : ((((rd_T25 l1 x7_1).f0).toList) == a0_1.toList && ((((rd_T25 l1 x7_1).f1.f0) == a0_2 && (((rd_T25 l1 x7_1).f1.f1) == a0_3)))) = true := c9
       (try (have c9b1 : decide ((((rd_T25 l1 x7_1).f0).toList) = a0_1.toList && ((((rd_T25 l1 x7_1).f1.f0) == a0_2 && (((rd_T25 l1 x7_1).f1.f1) == a0_3)))) = true := by simpa using c9))
       (try (have c9b2 : ((((rd_T25 l1 x7_1).f0).toList) == a0_1.toList && ((((rd_T25 l1 x7_1).f1.f0) == a0_2 && (((rd_T25 l1 x7_1).f1.f1) == a0_3)))) = true := by simpa using c9))
       clear c9
       by_cases c10 : x7_1 < (l2.length : Int)
       ·rw [if_pos c10] at H
        have c10b0 : decide (x7_1 < (l2.length : Int)) = true := decide_eq_true c10
        clear c10
        obtain rfl := Option.some.inj H
        have p285 : 0 ≤ (x7_1 : Int) := of_decide_eq_true (by first | (with_reducible assumption) | assumption)
        have q285 : x7_1 < (l1.length : Int) := of_decide_eq_true (by first | (with_reducible assumption) | assumption)
        obtain ⟨ad285, e285, hx285_0, hx285_1, hx285_2⟩ := at_T25 HR1.out x7_1 p285 q285
        cases e285
        replace hx285_0 := (HB.out.cell (World.block_lt_of_cell? w _ hx285_0)).trans hx285_0
        replace hx285_1 := (HB.out.cell (World.block_lt_of_cell? w _ hx285_1)).trans hx285_1
        replace hx285_2 := (HB.out.cell (World.block_lt_of_cell? w _ hx285_2)).trans hx285_2
        replace p285 := eq_true p285
        replace q285 := eq_true q285
        obtain ⟨hcz11_0, hcz11_1, hcz11_2, hcz11_3, hcz11_4, hfz11_0, hfz11_1, hfz11_2, hfz11_3, hfz11_4⟩ := b5 BK284.out
        have p286 : 0 ≤ (x7_1 : Int) := of_decide_eq_true (by first | (with_reducible assumption) | assumption)
        have q286 : x7_1 < (l2.length : Int) := of_decide_eq_true (by first | (with_reducible assumption) | assumption)
        obtain ⟨ad286, e286, hx286_0⟩ := Kd.at_bool HR2.out x7_1 p286 q286
        cases e286
        replace hx286_0 := (HB.out.cell (World.block_lt_of_cell? w _ hx286_0)).trans hx286_0
        replace p286 := eq_true p286
        replace q286 := eq_true q286
        go_wp2
        repeat (go_quiet (fail); try go_wp2)
        go_ret
        exact ⟨by first | rfl | (simp [errW_none, errW_some] <;> rfl) | (simp [*, errW_none, errW_some] <;> rfl), by repeat (first | (with_reducible first | exact HB.out | apply ba | apply bd | apply be | refine below_set ?_ GE284.out) | exact HB.out)⟩
       ·rw [if_neg c10] at H
        have c10b0 : decide (x7_1 < (l2.length : Int)) = false := decide_eq_false c10
        clear c10
        obtain rfl := Option.some.inj H
        have p285 : 0 ≤ (x7_1 : Int) := of_decide_eq_true (by first | (with_reducible assumption) | assumption)
        have q285 : x7_1 < (l1.length : Int) := of_decide_eq_true (by first | (with_reducible assumption) | assumption)
        obtain ⟨ad285, e285, hx285_0, hx285_1, hx285_2⟩ := at_T25 HR1.out x7_1 p285 q285
        cases e285
        replace hx285_0 := (HB.out.cell (World.block_lt_of_cell? w _ hx285_0)).trans hx285_0
        replace hx285_1 := (HB.out.cell (World.block_lt_of_cell? w _ hx285_1)).trans hx285_1
        replace hx285_2 := (HB.out.cell (World.block_lt_of_cell? w _ hx285_2)).trans hx285_2
        replace p285 := eq_true p285
        replace q285 := eq_true q285
        obtain ⟨hcz12_0, hcz12_1, hcz12_2, hcz12_3, hcz12_4, hfz12_0, hfz12_1, hfz12_2, hfz12_3, hfz12_4⟩ := b5 BK284.out
        go_wp2
        repeat (go_quiet (fail); try go_wp2)
        go_ret
        exact ⟨by first | rfl | (simp [errW_none, errW_some] <;> rfl) | (simp [*, errW_none, errW_some] <;> rfl), by repeat (first | (with_reducible first | exact HB.out | apply ba | apply bd | apply be | refine below_set ?_ GE284.out) | exact HB.out)⟩
      ·rw [if_neg c9] at H
       have c9b0 : ((((rd_T25 l1 x7_1).f0).toList) == a0_1.toList && ((((rd_T25 l1 x7_1).f1.f0) == a0_2 && (((rd_T25 l1 x7_1).f1.f1) == a0_3)))) = false := by simpa using c9
       (try (have c9b1 : decide ((((rd_T25 l1 x7_1).f0).toList) = a0_1.toList && ((((rd_T25 l1 x7_1).f1.f0) == a0_2 && (((rd_T25 l1 x7_1).f1.f1) == a0_3)))) = false := by simpa using c9))
       (try (have c9b2 : ((((rd_T25 l1 x7_1).f0).toList) == a0_1.toList && ((((rd_T25 l1 x7_1).f1.f0) == a0_2 && (((rd_T25 l1 x7_1).f1.f1) == a0_3)))) = false := by simpa using c9))
       (try (have c9b3 : ¬ ((((rd_T25 l1 x7_1).f0).toList) = a0_1.toList && ((((rd_T25 l1 x7_1).f1.f0) == a0_2 && (((rd_T25 l1 x7_1).f1.f1) == a0_3)))) := by simpa using c9))
       clear c9
       have H' := Aside0.mk H
       clear H
       have p285 : 0 ≤ (x7_1 : Int) := of_decide_eq_true (by first | (with_reducible assumption) | assumption)
       have q285 : x7_1 < (l1.length : Int) := of_decide_eq_true (by first | (with_reducible assumption) | assumption)
       obtain ⟨ad285, e285, hx285_0, hx285_1, hx285_2⟩ := at_T25 HR1.out x7_1 p285 q285
       cases e285
       replace hx285_0 := (HB.out.cell (World.block_lt_of_cell? w _ hx285_0)).trans hx285_0
       replace hx285_1 := (HB.out.cell (World.block_lt_of_cell? w _ hx285_1)).trans hx285_1
       replace hx285_2 := (HB.out.cell (World.block_lt_of_cell? w _ hx285_2)).trans hx285_2
       replace p285 := eq_true p285
       replace q285 := eq_true q285
       obtain ⟨hcz13_0, hcz13_1, hcz13_2, hcz13_3, hcz13_4, hfz13_0, hfz13_1, hfz13_2, hfz13_3, hfz13_4⟩ := b5 BK284.out
       go_wp2
       repeat (go_quiet (fail); try go_wp2)
       go_roundg k1
       case measure => have := HK1.out; omega
       case rel => exact ⟨(wrap64 (x7_1 + 1)), (by first | rfl | (simp; done) | (simp [*]; done)), H', ⟨by have := HK1.out; omega⟩, ⟨by exact zB <| BK284.out⟩, ⟨by repeat (first | (with_reducible first | exact HB.out | apply ba | apply bd | apply be | refine below_set ?_ GE284.out) | exact HB.out)⟩⟩
     ·rw [if_neg c8] at H
      exact absurd H (by simp)
    ·rw [if_neg c7] at H
     have c7b0 : decide (x7_1 < (l1.length : Int)) = false := decide_eq_false c7
     clear c7
     obtain rfl := Option.some.inj H
     go_wp2
     repeat (go_quiet (fail); try go_wp2)
     go_ret
     exact ⟨by first | rfl | (simp [errW_none, errW_some] <;> rfl) | (simp [*, errW_none, errW_some] <;> rfl), by repeat (first | (with_reducible first | exact HB.out | apply ba | apply bd | apply be | refine below_set ?_ GE284.out) | exact HB.out)⟩
 ·rw [if_neg c4] at H
  have c4b0 : (a0_0 == 0) = false := beq_eq_false_iff_ne.mpr c4
  have c4b1 : (a0_0 != 0) = true := bne_iff_ne.mpr c4
  have H' := Aside0.mk H
  clear H
  go_enter Try.func34, Try.ntmps34
  go_wp2_with (first | ((with_reducible refine gate_dst (N := 3) rfl ?_); refine box_event ?hg (N := 3) ?hd (cs := #[.int .i64 a0_0, .string a0_1, .int .i64 a0_2, .int .i64 a0_3, .slice A0_4 l0_4.length c0_4]) (t := 28) ?hr ?_; (case hd => rfl); (case hg => rfl); (case hr => first | (go_simp; done) | (go_simp; rfl)); intro gb284 hg w14 hbox hb; have n0_ := am (below_step (zL HB.out) hb); have n1_ := am (hbox); have n2_ := am (zS hg HB.out); have n3_ := am (zS hg HB.out); clear HB; have HB := n0_; have BK284 := n1_; have GW284 := n2_; have GE284 := n3_; clear n0_ n1_ n2_ n3_; clear hb hbox hg; obtain ⟨hcz15_0, hcz15_1, hcz15_2, hcz15_3, hcz15_4, hfz15_0, hfz15_1, hfz15_2, hfz15_3, hfz15_4⟩ := b5 BK284.out))
  repeat (go_quiet (first | ((with_reducible refine gate_dst (N := 3) rfl ?_); refine box_event ?hg (N := 3) ?hd (cs := #[.int .i64 a0_0, .string a0_1, .int .i64 a0_2, .int .i64 a0_3, .slice A0_4 l0_4.length c0_4]) (t := 28) ?hr ?_; (case hd => rfl); (case hg => rfl); (case hr => first | (go_simp; done) | (go_simp; rfl)); intro gb284 hg w14 hbox hb; have n0_ := am (below_step (zL HB.out) hb); have n1_ := am (hbox); have n2_ := am (zS hg HB.out); have n3_ := am (zS hg HB.out); clear HB; have HB := n0_; have BK284 := n1_; have GW284 := n2_; have GE284 := n3_; clear n0_ n1_ n2_ n3_; clear hb hbox hg; obtain ⟨hcz15_0, hcz15_1, hcz15_2, hcz15_3, hcz15_4, hfz15_0, hfz15_1, hfz15_2, hfz15_3, hfz15_4⟩ := b5 BK284.out)); try go_wp2_with (first | ((with_reducible refine gate_dst (N := 3) rfl ?_); refine box_event ?hg (N := 3) ?hd (cs := #[.int .i64 a0_0, .string a0_1, .int .i64 a0_2, .int .i64 a0_3, .slice A0_4 l0_4.length c0_4]) (t := 28) ?hr ?_; (case hd => rfl); (case hg => rfl); (case hr => first | (go_simp; done) | (go_simp; rfl)); intro gb284 hg w14 hbox hb; have n0_ := am (below_step (zL HB.out) hb); have n1_ := am (hbox); have n2_ := am (zS hg HB.out); have n3_ := am (zS hg HB.out); clear HB; have HB := n0_; have BK284 := n1_; have GW284 := n2_; have GE284 := n3_; clear n0_ n1_ n2_ n3_; clear hb hbox hg; obtain ⟨hcz15_0, hcz15_1, hcz15_2, hcz15_3, hcz15_4, hfz15_0, hfz15_1, hfz15_2, hfz15_3, hfz15_4⟩ := b5 BK284.out)))
  go_loopg [8, 9] k (fun kq v8 v9 w' => ∃ (x8_1 : Int) (x9_1 : Int), v8 = .int .i64 x8_1 ∧ v9 = .int .i64 x9_1 ∧ Aside0 (clusterlocksref08_holds.l1 kq l1 l2 x8_1 x9_1 a0_0 a0_1 a0_2 a0_3 l0_4 = some r) ∧ Aside0 (kq ≤ k) ∧ Aside0 (w'.heap[gb284]? = some (.cells #[.int .i64 a0_0, .string a0_1, .int .i64 a0_2, .int .i64 a0_3, (.slice A0_4 l0_4.length c0_4)] 28 (0, 0))) ∧ Aside0 (Below w.heap.size w w'))
  case atStart => exact ⟨(0), (0), (by first | rfl | (simp; done) | (simp [*]; done)), (by first | rfl | (simp; done) | (simp [*]; done)), H', ⟨Nat.le_refl _⟩, ⟨by exact zB <| BK284.out⟩, ⟨by repeat (first | (with_reducible first | exact HB.out | apply ba | apply bd | apply be | refine below_set ?_ GE284.out) | exact HB.out)⟩⟩
  case round =>
   clear H'
   try clear c1
   try clear c2
   try clear p2
   try clear q2
   try clear hx2
   try clear c3
   try clear c4
   try clear c4b0
   try clear c4b1
   try clear p6
   try clear c7
   try clear c7b0
   try clear c8
   try clear c8b0
   try clear c9
   try clear c9b0
   try clear c9b1
   try clear c9b2
   try clear c10
   try clear c10b0
   try clear hcz11_0
   try clear hcz11_1
   try clear hcz11_2
   try clear hcz11_3
   try clear hcz11_4
   try clear hcz12_0
   try clear hcz12_1
   try clear hcz12_2
   try clear hcz12_3
   try clear hcz12_4
   try clear hcz13_0
   try clear hcz13_1
   try clear hcz13_2
   try clear hcz13_3
   try clear hcz13_4
   try clear hcz15_0
   try clear hcz15_1
   try clear hcz15_2
   try clear hcz15_3
   try clear hcz15_4
   try clear hcz6_0
   try clear hcz6_1
   try clear hcz6_2
   try clear hcz6_3
   try clear hcz6_4
   try clear hfz11_0
   try clear hfz11_1
   try clear hfz11_2
   try clear hfz11_3
   try clear hfz11_4
   try clear hfz12_0
   try clear hfz12_1
   try clear hfz12_2
   try clear hfz12_3
   try clear hfz12_4
   try clear hfz13_0
   try clear hfz13_1
   try clear hfz13_2
   try clear hfz13_3
   try clear hfz13_4
   try clear hfz15_0
   try clear hfz15_1
   try clear hfz15_2
   try clear hfz15_3
   try clear hfz15_4
   try clear hfz6_0
   try clear hfz6_1
   try clear hfz6_2
   try clear hfz6_3
   try clear hfz6_4
   try clear hx285_0
   try clear hx285_1
   try clear hx285_2
   try clear hx286_0
   try clear p2
   try clear p285
   try clear p286
   try clear q285
   try clear q286
   obtain ⟨x8_1, x9_1, rfl, rfl, HA, HK1, BK284, HB⟩ := hrel
   cases gk with
   | zero => exact absurd HA.out (by simp [clusterlocksref08_holds.l1])
   | succ k1 =>
    have H := HA.out
    clear HA
    simp only [clusterlocksref08_holds.l1] at H
    by_cases c16 : x9_1 < (l0_4.length : Int)
    ·rw [if_pos c16] at H
     have c16b0 : decide (x9_1 < (l0_4.length : Int)) = true := decide_eq_true c16
     clear c16
     by_cases c17 : 0 ≤ x9_1
     ·rw [if_pos c17] at H
      have c17b0 : decide (0 ≤ x9_1) = true := decide_eq_true c17
      clear c17
      replace H := Option.bind_eq_some_iff.mp H
      obtain ⟨t288, A180, H⟩ := H
      replace H : (if t288 = true then (clusterlocksref08_holds.l1 k1 l1 l2 (wrap64 (x8_1 + 1)) (wrap64 (x9_1 + 1)) a0_0 a0_1 a0_2 a0_3 l0_4) else (clusterlocksref08_holds.l1 k1 l1 l2 x8_1 (wrap64 (x9_1 + 1)) a0_0 a0_1 a0_2 a0_3 l0_4)) = some r := H
      have A18 := Aside0.mk A180
      clear A180
      by_cases c19 : t288 = true
      ·subst c19
       have H1 : (clusterlocksref08_holds.l1 k1 l1 l2 (wrap64 (x8_1 + 1)) (wrap64 (x9_1 + 1)) a0_0 a0_1 a0_2 a0_3 l0_4) = some r := by rw [if_pos rfl] at H; exact H
       clear H
       have H := H1
       clear H1
       have H' := Aside0.mk H
       clear H
       obtain ⟨hcz20_0, hcz20_1, hcz20_2, hcz20_3, hcz20_4, hfz20_0, hfz20_1, hfz20_2, hfz20_3, hfz20_4⟩ := b5 BK284.out
       have p287 : 0 ≤ (x9_1 : Int) := of_decide_eq_true (by first | (with_reducible assumption) | assumption)
       have q287 : x9_1 < (l0_4.length : Int) := of_decide_eq_true (by first | (with_reducible assumption) | assumption)
       obtain ⟨ad287, A287_4, c287_4, e287, hx287_0, hx287_1, hx287_2, hx287_3, hx287_4, hl287_4, hi287_4⟩ := at_T28 HR0_4.out x9_1 p287 q287
       cases e287
       replace hx287_0 := (HB.out.cell (World.block_lt_of_cell? w _ hx287_0)).trans hx287_0
       replace hx287_1 := (HB.out.cell (World.block_lt_of_cell? w _ hx287_1)).trans hx287_1
       replace hx287_2 := (HB.out.cell (World.block_lt_of_cell? w _ hx287_2)).trans hx287_2
       replace hx287_3 := (HB.out.cell (World.block_lt_of_cell? w _ hx287_3)).trans hx287_3
       replace hx287_4 := (HB.out.cell (World.block_lt_of_cell? w _ hx287_4)).trans hx287_4
       have HR287_4 := Aside0.mk hi287_4
       have HC287_4 := Aside0.mk hl287_4
       clear hi287_4 hl287_4
       replace p287 := eq_true p287
       replace q287 := eq_true q287
       go_wp2_with (first | (go_at_call 34; (with_reducible refine (ih k1 (by have := HK1.out; omega) ((rd_T28 l0_4 x9_1).f0) ((rd_T28 l0_4 x9_1).f1.f0) ((rd_T28 l0_4 x9_1).f1.f1.f0) ((rd_T28 l0_4 x9_1).f1.f1.f1) _ _ ((rd_T28 l0_4 x9_1).f2) _ _ l1 _ _ l2 true _ ?side1 ?side2 ?side3 ?side4 ?side5 ?side6 A18.out).mono ?_); (case side1 => exact zC (Kd.C_below HR287_4.out HB.out)); (case side2 => exact HC287_4.out); (case side3 => exact zC (Kd.C_below HR1.out HB.out)); (case side4 => exact HC1.out); (case side5 => exact zC (Kd.C_below HR2.out HB.out)); (case side6 => exact HC2.out); rintro e w21 ⟨rfl, hb⟩; have n0_ := am (blk_below (zB BK284.out) hb); have n1_ := am (below_step (zL HB.out) hb); clear BK284 HB; have BK284 := n0_; have HB := n1_; clear n0_ n1_; (try clear hb); (try clear hb2); (try clear hk); (try clear hi)))
       repeat (go_quiet (first | (go_at_call 34; (with_reducible refine (ih k1 (by have := HK1.out; omega) ((rd_T28 l0_4 x9_1).f0) ((rd_T28 l0_4 x9_1).f1.f0) ((rd_T28 l0_4 x9_1).f1.f1.f0) ((rd_T28 l0_4 x9_1).f1.f1.f1) _ _ ((rd_T28 l0_4 x9_1).f2) _ _ l1 _ _ l2 true _ ?side1 ?side2 ?side3 ?side4 ?side5 ?side6 A18.out).mono ?_); (case side1 => exact zC (Kd.C_below HR287_4.out HB.out)); (case side2 => exact HC287_4.out); (case side3 => exact zC (Kd.C_below HR1.out HB.out)); (case side4 => exact HC1.out); (case side5 => exact zC (Kd.C_below HR2.out HB.out)); (case side6 => exact HC2.out); rintro e w21 ⟨rfl, hb⟩; have n0_ := am (blk_below (zB BK284.out) hb); have n1_ := am (below_step (zL HB.out) hb); clear BK284 HB; have BK284 := n0_; have HB := n1_; clear n0_ n1_; (try clear hb); (try clear hb2); (try clear hk); (try clear hi))); try go_wp2_with (first | (go_at_call 34; (with_reducible refine (ih k1 (by have := HK1.out; omega) ((rd_T28 l0_4 x9_1).f0) ((rd_T28 l0_4 x9_1).f1.f0) ((rd_T28 l0_4 x9_1).f1.f1.f0) ((rd_T28 l0_4 x9_1).f1.f1.f1) _ _ ((rd_T28 l0_4 x9_1).f2) _ _ l1 _ _ l2 true _ ?side1 ?side2 ?side3 ?side4 ?side5 ?side6 A18.out).mono ?_); (case side1 => exact zC (Kd.C_below HR287_4.out HB.out)); (case side2 => exact HC287_4.out); (case side3 => exact zC (Kd.C_below HR1.out HB.out)); (case side4 => exact HC1.out); (case side5 => exact zC (Kd.C_below HR2.out HB.out)); (case side6 => exact HC2.out); rintro e w21 ⟨rfl, hb⟩; have n0_ := am (blk_below (zB BK284.out) hb); have n1_ := am (below_step (zL HB.out) hb); clear BK284 HB; have BK284 := n0_; have HB := n1_; clear n0_ n1_; (try clear hb); (try clear hb2); (try clear hk); (try clear hi))))
       go_roundg k1
       case measure => have := HK1.out; omega
       case rel => exact ⟨(wrap64 (x8_1 + 1)), (wrap64 (x9_1 + 1)), (by first | rfl | (simp; done) | (simp [*]; done)), (by first | rfl | (simp; done) | (simp [*]; done)), H', ⟨by have := HK1.out; omega⟩, ⟨by exact zB <| BK284.out⟩, ⟨by repeat (first | (with_reducible first | exact HB.out | apply ba | apply bd | apply be | refine below_set ?_ GE284.out) | exact HB.out)⟩⟩
      ·replace c19 := Bool.eq_false_iff.mpr c19
       subst c19
       have H1 : (clusterlocksref08_holds.l1 k1 l1 l2 x8_1 (wrap64 (x9_1 + 1)) a0_0 a0_1 a0_2 a0_3 l0_4) = some r := by rw [if_neg (show ¬ (false = true) by decide)] at H; exact H
       clear H
       have H := H1
       clear H1
       have H' := Aside0.mk H
       clear H
       obtain ⟨hcz22_0, hcz22_1, hcz22_2, hcz22_3, hcz22_4, hfz22_0, hfz22_1, hfz22_2, hfz22_3, hfz22_4⟩ := b5 BK284.out
       have p287 : 0 ≤ (x9_1 : Int) := of_decide_eq_true (by first | (with_reducible assumption) | assumption)
       have q287 : x9_1 < (l0_4.length : Int) := of_decide_eq_true (by first | (with_reducible assumption) | assumption)
       obtain ⟨ad287, A287_4, c287_4, e287, hx287_0, hx287_1, hx287_2, hx287_3, hx287_4, hl287_4, hi287_4⟩ := at_T28 HR0_4.out x9_1 p287 q287
       cases e287
       replace hx287_0 := (HB.out.cell (World.block_lt_of_cell? w _ hx287_0)).trans hx287_0
       replace hx287_1 := (HB.out.cell (World.block_lt_of_cell? w _ hx287_1)).trans hx287_1
       replace hx287_2 := (HB.out.cell (World.block_lt_of_cell? w _ hx287_2)).trans hx287_2
       replace hx287_3 := (HB.out.cell (World.block_lt_of_cell? w _ hx287_3)).trans hx287_3
       replace hx287_4 := (HB.out.cell (World.block_lt_of_cell? w _ hx287_4)).trans hx287_4
       have HR287_4 := Aside0.mk hi287_4
       have HC287_4 := Aside0.mk hl287_4
       clear hi287_4 hl287_4
       replace p287 := eq_true p287
       replace q287 := eq_true q287
       go_wp2_with (first | (go_at_call 34; (with_reducible refine (ih k1 (by have := HK1.out; omega) ((rd_T28 l0_4 x9_1).f0) ((rd_T28 l0_4 x9_1).f1.f0) ((rd_T28 l0_4 x9_1).f1.f1.f0) ((rd_T28 l0_4 x9_1).f1.f1.f1) _ _ ((rd_T28 l0_4 x9_1).f2) _ _ l1 _ _ l2 false _ ?side1 ?side2 ?side3 ?side4 ?side5 ?side6 A18.out).mono ?_); (case side1 => exact zC (Kd.C_below HR287_4.out HB.out)); (case side2 => exact HC287_4.out); (case side3 => exact zC (Kd.C_below HR1.out HB.out)); (case side4 => exact HC1.out); (case side5 => exact zC (Kd.C_below HR2.out HB.out)); (case side6 => exact HC2.out); rintro e w23 ⟨rfl, hb⟩; have n0_ := am (blk_below (zB BK284.out) hb); have n1_ := am (below_step (zL HB.out) hb); clear BK284 HB; have BK284 := n0_; have HB := n1_; clear n0_ n1_; (try clear hb); (try clear hb2); (try clear hk); (try clear hi)))
       repeat (go_quiet (first | (go_at_call 34; (with_reducible refine (ih k1 (by have := HK1.out; omega) ((rd_T28 l0_4 x9_1).f0) ((rd_T28 l0_4 x9_1).f1.f0) ((rd_T28 l0_4 x9_1).f1.f1.f0) ((rd_T28 l0_4 x9_1).f1.f1.f1) _ _ ((rd_T28 l0_4 x9_1).f2) _ _ l1 _ _ l2 false _ ?side1 ?side2 ?side3 ?side4 ?side5 ?side6 A18.out).mono ?_); (case side1 => exact zC (Kd.C_below HR287_4.out HB.out)); (case side2 => exact HC287_4.out); (case side3 => exact zC (Kd.C_below HR1.out HB.out)); (case side4 => exact HC1.out); (case side5 => exact zC (Kd.C_below HR2.out HB.out)); (case side6 => exact HC2.out); rintro e w23 ⟨rfl, hb⟩; have n0_ := am (blk_below (zB BK284.out) hb); have n1_ := am (below_step (zL HB.out) hb); clear BK284 HB; have BK284 := n0_; have HB := n1_; clear n0_ n1_; (try clear hb); (try clear hb2); (try clear hk); (try clear hi))); try go_wp2_with (first | (go_at_call 34; (with_reducible refine (ih k1 (by have := HK1.out; omega) ((rd_T28 l0_4 x9_1).f0) ((rd_T28 l0_4 x9_1).f1.f0) ((rd_T28 l0_4 x9_1).f1.f1.f0) ((rd_T28 l0_4 x9_1).f1.f1.f1) _ _ ((rd_T28 l0_4 x9_1).f2) _ _ l1 _ _ l2 false _ ?side1 ?side2 ?side3 ?side4 ?side5 ?side6 A18.out).mono ?_); (case side1 => exact zC (Kd.C_below HR287_4.out HB.out)); (case side2 => exact HC287_4.out); (case side3 => exact zC (Kd.C_below HR1.out HB.out)); (case side4 => exact HC1.out); (case side5 => exact zC (Kd.C_below HR2.out HB.out)); (case side6 => exact HC2.out); rintro e w23 ⟨rfl, hb⟩; have n0_ := am (blk_below (zB BK284.out) hb); have n1_ := am (below_step (zL HB.out) hb); clear BK284 HB; have BK284 := n0_; have HB := n1_; clear n0_ n1_; (try clear hb); (try clear hb2); (try clear hk); (try clear hi))))
       go_roundg k1
       case measure => have := HK1.out; omega
       case rel => exact ⟨(x8_1), (wrap64 (x9_1 + 1)), (by first | rfl | (simp; done) | (simp [*]; done)), (by first | rfl | (simp; done) | (simp [*]; done)), H', ⟨by have := HK1.out; omega⟩, ⟨by exact zB <| BK284.out⟩, ⟨by repeat (first | (with_reducible first | exact HB.out | apply ba | apply bd | apply be | refine below_set ?_ GE284.out) | exact HB.out)⟩⟩
     ·rw [if_neg c17] at H
      exact absurd H (by simp)
    ·rw [if_neg c16] at H
     have c16b0 : decide (x9_1 < (l0_4.length : Int)) = false := decide_eq_false c16
     clear c16
     obtain rfl := Option.some.inj H
     obtain ⟨hcz24_0, hcz24_1, hcz24_2, hcz24_3, hcz24_4, hfz24_0, hfz24_1, hfz24_2, hfz24_3, hfz24_4⟩ := b5 BK284.out
     go_wp2
     repeat (go_quiet (fail); try go_wp2)
     go_ret
     exact ⟨by first | rfl | (simp [errW_none, errW_some] <;> rfl) | (simp [*, errW_none, errW_some] <;> rfl), by repeat (first | (with_reducible first | exact HB.out | apply ba | apply bd | apply be | refine below_set ?_ GE284.out) | exact HB.out)⟩

/-! ### clusterlocksref08_Holds: function 16 -/
def clusterlocksref08_Holds.f (k : Nat) (a0_0 : Int) (a0_1 : ByteArray) (a0_2 : Int) (a0_3 : Int) (l0_4 : List (S28)) (l1 : List Bool) : Option (Bool) := (clusterlocksref07_Atoms.f k a0_0 a0_1 a0_2 a0_3 l0_4).bind fun bt290 => (if bt290.2 = true then ((clusterlocksref08_holds.f k a0_0 a0_1 a0_2 a0_3 l0_4 bt290.1 l1).bind fun t294 => (some t294)) else (some false))
theorem clusterlocksref08_Holds.mono : ∀ a0 a1 a2 a3 a4 a5 k, LeO (clusterlocksref08_Holds.f k a0 a1 a2 a3 a4 a5) (clusterlocksref08_Holds.f (k + 1) a0 a1 a2 a3 a4 a5) := by
 intro a0 a1 a2 a3 a4 a5 k
 unfold clusterlocksref08_Holds.f
 repeat' first
   | (with_reducible exact clusterlocksref07_Atoms.mono _ _ _ _ _ _)
   | (with_reducible exact clusterlocksref08_holds.mono _ _ _ _ _ _ _ _)
   | (with_reducible exact LeO.refl _)
   | (with_reducible exact LeO.none _)
   | (with_reducible refine LeO.ite ?_ ?_)
   | (with_reducible refine LeO.bind ?_ (fun _ => ?_))
   | exact clusterlocksref07_Atoms.mono _ _ _ _ _ _
   | exact clusterlocksref08_holds.mono _ _ _ _ _ _ _ _
   | exact LeO.none _
   | refine LeO.ite ?_ ?_
   | refine LeO.bind ?_ (fun _ => ?_)
set_option maxHeartbeats 8000000 in
set_option maxRecDepth 100000 in
theorem clusterlocksref08_Holds.calls (k : Nat) (a0_0 : Int) (a0_1 : ByteArray) (a0_2 : Int) (a0_3 : Int) (A0_4 : Option Addr) (c0_4 : Nat) (l0_4 : List (S28)) (A1 : Option Addr) (c1 : Nat) (l1 : List Bool) (r : Bool) (w : World) (hr0_4 : Kd.C k28 w A0_4 l0_4.length l0_4) (hc0_4 : l0_4.length ≤ c0_4) (hr1 : Kd.C Kd.bool w A1 l1.length l1) (hc1 : l1.length ≤ c1) (h : clusterlocksref08_Holds.f k a0_0 a0_1 a0_2 a0_3 l0_4 l1 = some r) :
  Calls Try.prog 16 #[.agg #[.int .i64 a0_0, .string a0_1, .int .i64 a0_2, .int .i64 a0_3, .slice A0_4 l0_4.length c0_4], .slice A1 l1.length c1] w fun e w' => e = .returned (.bool r) ∧ Below w.heap.size w w' := by
 have hu28 := Try.underlying28
 have HR0_4 := Aside0.mk hr0_4
 have HC0_4 := Aside0.mk hc0_4
 clear hr0_4 hc0_4
 have HR1 := Aside0.mk hr1
 have HC1 := Aside0.mk hc1
 clear hr1 hc1
 have HB := am (Below.refl w.heap.size w)
 have H : ((clusterlocksref07_Atoms.f k a0_0 a0_1 a0_2 a0_3 l0_4).bind fun bt290 => (if bt290.2 = true then ((clusterlocksref08_holds.f k a0_0 a0_1 a0_2 a0_3 l0_4 bt290.1 l1).bind fun t294 => (some t294)) else (some false))) = some r := h
 clear h
 replace H := Option.bind_eq_some_iff.mp H
 obtain ⟨⟨t290, t293⟩, A30, H⟩ := H
 replace H : (if t293 = true then ((clusterlocksref08_holds.f k a0_0 a0_1 a0_2 a0_3 l0_4 t290 l1).bind fun t294 => (some t294)) else (some false)) = some r := H
 have A3 := Aside0.mk A30
 clear A30
 by_cases c4 : t293 = true
 ·subst c4
  have H1 : ((clusterlocksref08_holds.f k a0_0 a0_1 a0_2 a0_3 l0_4 t290 l1).bind fun t294 => (some t294)) = some r := by rw [if_pos rfl] at H; exact H
  clear H
  have H := H1
  clear H1
  replace H := Option.bind_eq_some_iff.mp H
  obtain ⟨t294, A50, H⟩ := H
  replace H : (some t294) = some r := H
  have A5 := Aside0.mk A50
  clear A50
  obtain rfl := Option.some.inj H
  go_enter Try.func16, Try.ntmps16
  go_wp2_with (first | ((with_reducible refine gate_dst (N := 2) rfl ?_); refine box_event ?hg (N := 2) ?hd (cs := #[.int .i64 a0_0, .string a0_1, .int .i64 a0_2, .int .i64 a0_3, .slice A0_4 l0_4.length c0_4]) (t := 28) ?hr ?_; (case hd => rfl); (case hg => rfl); (case hr => first | (go_simp; done) | (go_simp; rfl)); intro gb289 hg w6 hbox hb; have n0_ := am (below_step (zL HB.out) hb); have n1_ := am (hbox); have n2_ := am (zS hg HB.out); have n3_ := am (zS hg HB.out); clear HB; have HB := n0_; have BK289 := n1_; have GW289 := n2_; have GE289 := n3_; clear n0_ n1_ n2_ n3_; clear hb hbox hg; obtain ⟨hcz7_0, hcz7_1, hcz7_2, hcz7_3, hcz7_4, hfz7_0, hfz7_1, hfz7_2, hfz7_3, hfz7_4⟩ := b5 BK289.out) | ((with_reducible refine gate_callee (f := 32) rfl ?_); refine goesL_ (some 9) rfl rfl Try.func32 (by kernel_rfl) rfl #[.agg #[.int .i64 a0_0, .string a0_1, .int .i64 a0_2, .int .i64 a0_3, .slice A0_4 l0_4.length c0_4]] rfl mp1 ?_; (with_reducible refine (clusterlocksref07_Atoms.calls k a0_0 a0_1 a0_2 a0_3 _ _ l0_4 t290 true _ ?side1 ?side2 A3.out).mono ?_); (case side1 => exact zC (Kd.C_below HR0_4.out HB.out)); (case side2 => exact HC0_4.out); rintro e w8 ⟨v291, rfl, ho0, hb⟩; refine ⟨_, rfl, ?_⟩; have n0_ := am (Kd.R_lower ho0 (below_size (zL HB.out))); have n1_ := am (blk_below (zB BK289.out) hb); have n2_ := am (below_step (zL HB.out) hb); clear BK289 HB; have HO292 := n0_; have BK289 := n1_; have HB := n2_; clear n0_ n1_ n2_; (try clear hb); (try clear hb2); (try clear hk); (try clear hi); (try clear ho0); obtain ⟨hcz9_0, hcz9_1, hcz9_2, hcz9_3, hcz9_4, hfz9_0, hfz9_1, hfz9_2, hfz9_3, hfz9_4⟩ := b5 BK289.out; obtain ⟨Ao10, co10, eo10⟩ := Kd.R_slice HO292.out; subst eo10) | (go_at_call 34; (with_reducible refine (clusterlocksref08_holds.calls k a0_0 a0_1 a0_2 a0_3 _ _ l0_4 _ _ t290 _ _ l1 t294 _ ?side1 ?side2 ?side3 ?side4 ?side5 ?side6 A5.out).mono ?_); (case side1 => exact zC (Kd.C_below HR0_4.out HB.out)); (case side2 => exact HC0_4.out); (case side3 => exact zC (Kd.R_reads' HO292.out).2.2); (case side4 => exact (Kd.R_reads' HO292.out).2.1); (case side5 => exact zC (Kd.C_below HR1.out HB.out)); (case side6 => exact HC1.out); rintro e w11 ⟨rfl, hb⟩; have n0_ := am (Kd.R_below (zR HO292.out) hb); have n1_ := am (blk_below (zB BK289.out) hb); have n2_ := am (below_step (zL HB.out) hb); clear HO292 BK289 HB; have HO292 := n0_; have BK289 := n1_; have HB := n2_; clear n0_ n1_ n2_; (try clear hb); (try clear hb2); (try clear hk); (try clear hi)))
  go_ret
  exact ⟨by first | rfl | (simp [errW_none, errW_some] <;> rfl) | (simp [*, errW_none, errW_some] <;> rfl), by repeat (first | (with_reducible first | exact HB.out | apply ba | apply bd | apply be | refine below_set ?_ GE289.out) | exact HB.out)⟩
 ·replace c4 := Bool.eq_false_iff.mpr c4
  subst c4
  have H1 : (some false) = some r := by rw [if_neg (show ¬ (false = true) by decide)] at H; exact H
  clear H
  have H := H1
  clear H1
  obtain rfl := Option.some.inj H
  go_enter Try.func16, Try.ntmps16
  go_wp2_with (first | ((with_reducible refine gate_dst (N := 2) rfl ?_); refine box_event ?hg (N := 2) ?hd (cs := #[.int .i64 a0_0, .string a0_1, .int .i64 a0_2, .int .i64 a0_3, .slice A0_4 l0_4.length c0_4]) (t := 28) ?hr ?_; (case hd => rfl); (case hg => rfl); (case hr => first | (go_simp; done) | (go_simp; rfl)); intro gb289 hg w12 hbox hb; have n0_ := am (below_step (zL HB.out) hb); have n1_ := am (hbox); have n2_ := am (zS hg HB.out); have n3_ := am (zS hg HB.out); clear HB; have HB := n0_; have BK289 := n1_; have GW289 := n2_; have GE289 := n3_; clear n0_ n1_ n2_ n3_; clear hb hbox hg; obtain ⟨hcz13_0, hcz13_1, hcz13_2, hcz13_3, hcz13_4, hfz13_0, hfz13_1, hfz13_2, hfz13_3, hfz13_4⟩ := b5 BK289.out) | ((with_reducible refine gate_callee (f := 32) rfl ?_); refine goesL_ (some 9) rfl rfl Try.func32 (by kernel_rfl) rfl #[.agg #[.int .i64 a0_0, .string a0_1, .int .i64 a0_2, .int .i64 a0_3, .slice A0_4 l0_4.length c0_4]] rfl mp1 ?_; (with_reducible refine (clusterlocksref07_Atoms.calls k a0_0 a0_1 a0_2 a0_3 _ _ l0_4 t290 false _ ?side1 ?side2 A3.out).mono ?_); (case side1 => exact zC (Kd.C_below HR0_4.out HB.out)); (case side2 => exact HC0_4.out); rintro e w14 ⟨v291, rfl, ho0, hb⟩; refine ⟨_, rfl, ?_⟩; have n0_ := am (Kd.R_lower ho0 (below_size (zL HB.out))); have n1_ := am (blk_below (zB BK289.out) hb); have n2_ := am (below_step (zL HB.out) hb); clear BK289 HB; have HO292 := n0_; have BK289 := n1_; have HB := n2_; clear n0_ n1_ n2_; (try clear hb); (try clear hb2); (try clear hk); (try clear hi); (try clear ho0)))
  go_ret
  exact ⟨by first | rfl | (simp [errW_none, errW_some] <;> rfl) | (simp [*, errW_none, errW_some] <;> rfl), by repeat (first | (with_reducible first | exact HB.out | apply ba | apply bd | apply be | refine below_set ?_ GE289.out) | exact HB.out)⟩

/-! ### clusterlocksref08_Hopeless: function 18 -/
def clusterlocksref08_Hopeless.l0 : Nat → List Bool → List (S25) → List Bool → Int → Int → ByteArray → Int → Int → List (S28) → Option (Bool)
 | 0, _, _, _, _, _, _, _, _, _ => none
 | k + 1, x1, x5, x7, x8, x296000, x296001, x296002, x296003, x296004 => if x8 < (x5.length : Int) then (if x8 ≥ (x1.length : Int) then (if 0 ≤ x8 then (if x8 < (x7.length : Int) then (clusterlocksref08_Hopeless.l0 k x1 x5 (x7.set (x8 : Int).toNat true) (wrap64 (x8 + 1)) x296000 x296001 x296002 x296003 x296004) else (none)) else (none)) else (if 0 ≤ x8 then (if x8 < (x1.length : Int) then (if x8 < (x7.length : Int) then (clusterlocksref08_Hopeless.l0 k x1 x5 (x7.set (x8 : Int).toNat (!(rdOf false x1 x8))) (wrap64 (x8 + 1)) x296000 x296001 x296002 x296003 x296004) else (none)) else (none)) else (none))) else ((clusterlocksref08_holds.f k x296000 x296001 x296002 x296003 x296004 x5 x7).bind fun t306 => (some (!t306)))
def clusterlocksref08_Hopeless.f (k : Nat) (a0_0 : Int) (a0_1 : ByteArray) (a0_2 : Int) (a0_3 : Int) (l0_4 : List (S28)) (l1 : List Bool) : Option (Bool) := (clusterlocksref07_Atoms.f k a0_0 a0_1 a0_2 a0_3 l0_4).bind fun bt296 => (if bt296.2 = true then (if 0 ≤ (bt296.1.length : Int) then (if ((bt296.1.length : Int) : Int).toNat ≤ 281474976710656 then (clusterlocksref08_Hopeless.l0 k l1 bt296.1 (List.replicate ((bt296.1.length : Int) : Int).toNat false) 0 a0_0 a0_1 a0_2 a0_3 l0_4) else (none)) else (none)) else (some false))
theorem clusterlocksref08_Hopeless.mono_l : ∀ k, (∀ y0 y1 y2 y3 y4 y5 y6 y7 y8, LeO (clusterlocksref08_Hopeless.l0 k y0 y1 y2 y3 y4 y5 y6 y7 y8) (clusterlocksref08_Hopeless.l0 (k + 1) y0 y1 y2 y3 y4 y5 y6 y7 y8))
 | 0 => fun _ _ _ _ _ _ _ _ _ r h => by simp [clusterlocksref08_Hopeless.l0] at h
 | k + 1 => by
  have ih0 := clusterlocksref08_Hopeless.mono_l k
  ·intro y0 y1 y2 y3 y4 y5 y6 y7 y8
   unfold clusterlocksref08_Hopeless.l0
   repeat' first
   | (with_reducible exact ih0 _ _ _ _ _ _ _ _ _)
   | (with_reducible exact clusterlocksref07_Atoms.mono _ _ _ _ _ _)
   | (with_reducible exact clusterlocksref08_holds.mono _ _ _ _ _ _ _ _)
   | (with_reducible exact LeO.refl _)
   | (with_reducible exact LeO.none _)
   | (with_reducible refine LeO.ite ?_ ?_)
   | (with_reducible refine LeO.bind ?_ (fun _ => ?_))
   | exact ih0 _ _ _ _ _ _ _ _ _
   | exact clusterlocksref07_Atoms.mono _ _ _ _ _ _
   | exact clusterlocksref08_holds.mono _ _ _ _ _ _ _ _
   | exact LeO.none _
   | refine LeO.ite ?_ ?_
   | refine LeO.bind ?_ (fun _ => ?_)
theorem clusterlocksref08_Hopeless.mono : ∀ a0 a1 a2 a3 a4 a5 k, LeO (clusterlocksref08_Hopeless.f k a0 a1 a2 a3 a4 a5) (clusterlocksref08_Hopeless.f (k + 1) a0 a1 a2 a3 a4 a5) := by
 intro a0 a1 a2 a3 a4 a5 k
 have ih0 := clusterlocksref08_Hopeless.mono_l k
 unfold clusterlocksref08_Hopeless.f
 repeat' first
   | (with_reducible exact ih0 _ _ _ _ _ _ _ _ _)
   | (with_reducible exact clusterlocksref07_Atoms.mono _ _ _ _ _ _)
   | (with_reducible exact clusterlocksref08_holds.mono _ _ _ _ _ _ _ _)
   | (with_reducible exact LeO.refl _)
   | (with_reducible exact LeO.none _)
   | (with_reducible refine LeO.ite ?_ ?_)
   | (with_reducible refine LeO.bind ?_ (fun _ => ?_))
   | exact ih0 _ _ _ _ _ _ _ _ _
   | exact clusterlocksref07_Atoms.mono _ _ _ _ _ _
   | exact clusterlocksref08_holds.mono _ _ _ _ _ _ _ _
   | exact LeO.none _
   | refine LeO.ite ?_ ?_
   | refine LeO.bind ?_ (fun _ => ?_)
set_option maxHeartbeats 8000000 in
set_option maxRecDepth 100000 in
theorem clusterlocksref08_Hopeless.calls (k : Nat) (a0_0 : Int) (a0_1 : ByteArray) (a0_2 : Int) (a0_3 : Int) (A0_4 : Option Addr) (c0_4 : Nat) (l0_4 : List (S28)) (A1 : Option Addr) (c1 : Nat) (l1 : List Bool) (r : Bool) (w : World) (hr0_4 : Kd.C k28 w A0_4 l0_4.length l0_4) (hc0_4 : l0_4.length ≤ c0_4) (hr1 : Kd.C Kd.bool w A1 l1.length l1) (hc1 : l1.length ≤ c1) (h : clusterlocksref08_Hopeless.f k a0_0 a0_1 a0_2 a0_3 l0_4 l1 = some r) :
  Calls Try.prog 18 #[.agg #[.int .i64 a0_0, .string a0_1, .int .i64 a0_2, .int .i64 a0_3, .slice A0_4 l0_4.length c0_4], .slice A1 l1.length c1] w fun e w' => e = .returned (.bool r) ∧ Below w.heap.size w w' := by
 have hu28 := Try.underlying28
 have HR0_4 := Aside0.mk hr0_4
 have HC0_4 := Aside0.mk hc0_4
 clear hr0_4 hc0_4
 have HR1 := Aside0.mk hr1
 have HC1 := Aside0.mk hc1
 clear hr1 hc1
 have HB := am (Below.refl w.heap.size w)
 have H : ((clusterlocksref07_Atoms.f k a0_0 a0_1 a0_2 a0_3 l0_4).bind fun bt296 => (if bt296.2 = true then (if 0 ≤ (bt296.1.length : Int) then (if ((bt296.1.length : Int) : Int).toNat ≤ 281474976710656 then (clusterlocksref08_Hopeless.l0 k l1 bt296.1 (List.replicate ((bt296.1.length : Int) : Int).toNat false) 0 a0_0 a0_1 a0_2 a0_3 l0_4) else (none)) else (none)) else (some false))) = some r := h
 clear h
 replace H := Option.bind_eq_some_iff.mp H
 obtain ⟨⟨t296, t299⟩, A30, H⟩ := H
 replace H : (if t299 = true then (if 0 ≤ (t296.length : Int) then (if ((t296.length : Int) : Int).toNat ≤ 281474976710656 then (clusterlocksref08_Hopeless.l0 k l1 t296 (List.replicate ((t296.length : Int) : Int).toNat false) 0 a0_0 a0_1 a0_2 a0_3 l0_4) else (none)) else (none)) else (some false)) = some r := H
 have A3 := Aside0.mk A30
 clear A30
 by_cases c4 : t299 = true
 ·subst c4
  have H1 : (if 0 ≤ (t296.length : Int) then (if ((t296.length : Int) : Int).toNat ≤ 281474976710656 then (clusterlocksref08_Hopeless.l0 k l1 t296 (List.replicate ((t296.length : Int) : Int).toNat false) 0 a0_0 a0_1 a0_2 a0_3 l0_4) else (none)) else (none)) = some r := by rw [if_pos rfl] at H; exact H
  clear H
  have H := H1
  clear H1
  by_cases c5 : 0 ≤ (t296.length : Int)
  ·rw [if_pos c5] at H
   have c5b0 := eq_true c5
   have c5b1 : decide (0 ≤ (t296.length : Int)) = true := decide_eq_true c5
   clear c5
   by_cases c6 : ((t296.length : Int) : Int).toNat ≤ 281474976710656
   ·rw [if_pos c6] at H
    have c6b0 := eq_true c6
    have c6b1 : decide (((t296.length : Int) : Int).toNat ≤ 281474976710656) = true := decide_eq_true c6
    clear c6
    obtain ⟨y300, hy300⟩ : ∃ y_ : List Bool, y_ = (List.replicate ((t296.length : Int) : Int).toNat false) := ⟨_, rfl⟩
    replace H : (clusterlocksref08_Hopeless.l0 k l1 t296 y300 0 a0_0 a0_1 a0_2 a0_3 l0_4) = some r := by first | (rw [hy300]; with_reducible exact H) | (have H2_ := (Option.bind_some _ _).symm.trans H; rw [hy300]; with_reducible exact H2_) | (have H2_ := (Option.bind_some _ _).symm.trans H; with_reducible exact H2_) | with_reducible exact H | (rw [hy300]; exact H) | exact H
    have Ny300 := Aside0.mk hy300
    clear hy300
    have H' := Aside0.mk H
    clear H
    go_enter Try.func18, Try.ntmps18
    go_wp2_with (first | ((with_reducible refine gate_dst (N := 2) rfl ?_); refine box_event ?hg (N := 2) ?hd (cs := #[.int .i64 a0_0, .string a0_1, .int .i64 a0_2, .int .i64 a0_3, .slice A0_4 l0_4.length c0_4]) (t := 28) ?hr ?_; (case hd => rfl); (case hg => rfl); (case hr => first | (go_simp; done) | (go_simp; rfl)); intro gb295 hg w7 hbox hb; have n0_ := am (below_step (zL HB.out) hb); have n1_ := am (hbox); have n2_ := am (zS hg HB.out); have n3_ := am (zS hg HB.out); clear HB; have HB := n0_; have BK295 := n1_; have GW295 := n2_; have GE295 := n3_; clear n0_ n1_ n2_ n3_; clear hb hbox hg; obtain ⟨hcz8_0, hcz8_1, hcz8_2, hcz8_3, hcz8_4, hfz8_0, hfz8_1, hfz8_2, hfz8_3, hfz8_4⟩ := b5 BK295.out) | ((with_reducible refine gate_callee (f := 32) rfl ?_); refine goesL_ (some 11) rfl rfl Try.func32 (by kernel_rfl) rfl #[.agg #[.int .i64 a0_0, .string a0_1, .int .i64 a0_2, .int .i64 a0_3, .slice A0_4 l0_4.length c0_4]] rfl mp1 ?_; (with_reducible refine (clusterlocksref07_Atoms.calls k a0_0 a0_1 a0_2 a0_3 _ _ l0_4 t296 true _ ?side1 ?side2 A3.out).mono ?_); (case side1 => exact zC (Kd.C_below HR0_4.out HB.out)); (case side2 => exact HC0_4.out); rintro e w9 ⟨v297, rfl, ho0, hb⟩; refine ⟨_, rfl, ?_⟩; have n0_ := am (Kd.R_lower ho0 (below_size (zL HB.out))); have n1_ := am (blk_below (zB BK295.out) hb); have n2_ := am (below_step (zL HB.out) hb); clear BK295 HB; have HO298 := n0_; have BK295 := n1_; have HB := n2_; clear n0_ n1_ n2_; (try clear hb); (try clear hb2); (try clear hk); (try clear hi); (try clear ho0); obtain ⟨Ao10, co10, eo10⟩ := Kd.R_slice HO298.out; subst eo10) | ((with_reducible refine gate_dst (N := 18) rfl ?_); refine Kd.R_make Kd.bool _ 4 rfl (N := 18) rfl 33 _ _ rfl (t296.length : Int) rfl rfl Try.underlying33 (.bool false) 1 info4 rfl (by decide) (by omega) false (ok := fun _ => True) (okp := fun _ => True) rfl (fun _ hk => hk) trivial (of_decide_eq_true (by first | (with_reducible assumption) | assumption)) (Nat.le_trans (Nat.mul_le_mul_right _ (of_decide_eq_true (by first | (with_reducible assumption) | assumption) : (t296.length : Int).toNat ≤ 281474976710656)) (by omega)) (Below.refl _ _) (Nat.le_refl _) ?_; intro v301 w11 ho12 hb hg_ hnew_; clear hg_ hnew_; (first | rw [← Ny300.out] at ho12 | (simp only [Int.reduceToNat] at ho12; rw [← Ny300.out] at ho12)); have n0_ := am (Kd.R_below (zR HO298.out) hb); have n1_ := am (Kd.R_lower ho12 (below_size (zL HB.out))); have n2_ := am (blk_below (zB BK295.out) hb); have n3_ := am (below_step (zL HB.out) hb); clear HO298 BK295 HB; have HO298 := n0_; have HO302 := n1_; have BK295 := n2_; have HB := n3_; clear n0_ n1_ n2_ n3_; clear hb ho12))
    go_loopg [8] k (fun kq v8 w' => ∃ (x7_1 : List Bool) (x8_1 : Int), v8 = .int .i64 x8_1 ∧ Aside0 (clusterlocksref08_Hopeless.l0 kq l1 t296 x7_1 x8_1 a0_0 a0_1 a0_2 a0_3 l0_4 = some r) ∧ Aside0 (kq ≤ k) ∧ Aside0 (Kd.R k25 25 w' w.heap.size (fun _ => True) (.slice Ao10 t296.length co10) t296) ∧ Aside0 (Kd.R Kd.bool 4 w' w.heap.size (fun _ => True) v301 x7_1) ∧ Aside0 (w'.heap[gb295]? = some (.cells #[.int .i64 a0_0, .string a0_1, .int .i64 a0_2, .int .i64 a0_3, (.slice A0_4 l0_4.length c0_4)] 28 (0, 0))) ∧ Aside0 (Below w.heap.size w w'))
    case atStart => exact ⟨(y300), (0), (by first | rfl | (simp; done) | (simp [*]; done)), H', ⟨Nat.le_refl _⟩, ⟨by exact zR HO298.out⟩, ⟨by exact zR HO302.out⟩, ⟨by exact zB <| BK295.out⟩, ⟨by repeat (first | (with_reducible first | exact HB.out | apply ba | apply bd | apply be | refine below_set ?_ GE295.out) | exact HB.out)⟩⟩
    case round =>
     clear H'
     try clear c1
     try clear p2
     try clear c3
     try clear c4
     try clear c5
     try clear c5b0
     try clear c5b1
     try clear c6
     try clear c6b0
     try clear c6b1
     try clear hcz8_0
     try clear hcz8_1
     try clear hcz8_2
     try clear hcz8_3
     try clear hcz8_4
     try clear hfz8_0
     try clear hfz8_1
     try clear hfz8_2
     try clear hfz8_3
     try clear hfz8_4
     obtain ⟨x7_1, x8_1, rfl, HA, HK1, HO_5, HO_7, BK295, HB⟩ := hrel
     cases gk with
     | zero => exact absurd HA.out (by simp [clusterlocksref08_Hopeless.l0])
     | succ k1 =>
      have H := HA.out
      clear HA
      simp only [clusterlocksref08_Hopeless.l0] at H
      by_cases c13 : x8_1 < (t296.length : Int)
      ·rw [if_pos c13] at H
       have c13b0 : decide (x8_1 < (t296.length : Int)) = true := decide_eq_true c13
       clear c13
       by_cases c14 : x8_1 ≥ (l1.length : Int)
       ·rw [if_pos c14] at H
        have c14b0 : decide ((l1.length : Int) ≤ x8_1) = true := decide_eq_true c14
        clear c14
        by_cases c15 : 0 ≤ x8_1
        ·rw [if_pos c15] at H
         have c15b0 : decide (0 ≤ x8_1) = true := decide_eq_true c15
         clear c15
         by_cases c16 : x8_1 < (x7_1.length : Int)
         ·rw [if_pos c16] at H
          have c16b0 : decide (x8_1 < (x7_1.length : Int)) = true := decide_eq_true c16
          clear c16
          obtain ⟨y303, hy303⟩ : ∃ y_ : List Bool, y_ = (x7_1.set (x8_1 : Int).toNat true) := ⟨_, rfl⟩
          replace H : (clusterlocksref08_Hopeless.l0 k1 l1 t296 y303 (wrap64 (x8_1 + 1)) a0_0 a0_1 a0_2 a0_3 l0_4) = some r := by first | (rw [hy303]; with_reducible exact H) | (have H2_ := (Option.bind_some _ _).symm.trans H; rw [hy303]; with_reducible exact H2_) | (have H2_ := (Option.bind_some _ _).symm.trans H; with_reducible exact H2_) | with_reducible exact H | (rw [hy303]; exact H) | exact H
          have Ny303 := Aside0.mk hy303
          clear hy303
          have H' := Aside0.mk H
          clear H
          have p17 : 0 ≤ (x8_1 : Int) := of_decide_eq_true (by first | (with_reducible assumption) | assumption)
          have q17 : (x8_1 : Int) < ((x7_1.length : Int) : Int) := of_decide_eq_true (by first | (with_reducible assumption) | assumption)
          obtain ⟨go17, co17, eo17, gb17, gl17, cl17, HG17⟩ := Kd.R_form HO_7.out (by omega)
          (first | cases eo17 | (injection eo17 with ea_ en_ ec_; (first | subst ea_ | (injection ea_ with ea_; subst ea_)); subst ec_; clear en_))
          have GB17 := Aside0.mk gb17
          have GG17 := Aside0.mk HG17
          clear gb17 gl17 HG17
          obtain ⟨hx17_0, hf17_0⟩ := Kd.R_celln false HO_7.out (x8_1 : Int) p17 q17
          replace p17 := eq_true p17
          replace q17 := eq_true q17
          have HP18 := Kd.R_putg HO_7.out (x8_1 : Int) true
          go_wp2_with (first | ((with_reducible refine gate_store (t := 4) (p := 38) rfl ?_); refine store_event (t := 4) (p := 38) (v := ?vo_w19) (w1 := (wr.setCell ⟨go17, (x8_1 : Int).toNat, none⟩ (.bool true))) ?hg ?ho ?hn ?hr ?_; (case ho => rfl); (case hg => rfl); (case hn => rfl); (case hr => first | (go_simp; done) | (go_simp; rfl)); intro w19 hw; have hg : wr.grownBy w19 (some go17) := (by rw [hw]; exact HP18.2); have hp_ : Kd.R Kd.bool 4 w19 w.heap.size (fun _ => True) (.slice (some ⟨go17, 0, none⟩) x7_1.length co17) y303 := (by rw [hw, Ny303.out]; exact HP18.1); clear HP18; have n0_ := am (Kd.R_over' (v := (.slice (some ⟨go17, 0, none⟩) x7_1.length co17)) (zR HO_5.out) (Kd.R_typed HO_7.out) (by decide) hg); have n1_ := am (hp_); have n2_ := am (blk_grown (g := gb295) (o := .cells #[.int .i64 a0_0, .string a0_1, .int .i64 a0_2, .int .i64 a0_3, .slice A0_4 l0_4.length c0_4] 28 (0, 0)) (zB BK295.out) hg (Kd.R_ne HO_7.out BK295.out (by decide))); have n3_ := am ((by rw [hw]; exact below_set (HB.out) GB17.out : Below w.heap.size w w19)); clear HO_5 HO_7 BK295 HB; have HO_5 := n0_; have HO_7 := n1_; have BK295 := n2_; have HB := n3_; clear n0_ n1_ n2_ n3_; clear hg hw hp_))
          go_roundg k1
          case measure => have := HK1.out; omega
          case rel => exact ⟨(y303), (wrap64 (x8_1 + 1)), (by first | rfl | (simp; done) | (simp [*]; done)), H', ⟨by have := HK1.out; omega⟩, ⟨by exact zR HO_5.out⟩, ⟨by exact zR HO_7.out⟩, ⟨by exact zB <| BK295.out⟩, ⟨by repeat (first | (with_reducible first | exact HB.out | apply ba | apply bd | apply be | refine below_set ?_ GE295.out) | exact HB.out)⟩⟩
         ·rw [if_neg c16] at H
          exact absurd H (by simp)
        ·rw [if_neg c15] at H
         exact absurd H (by simp)
       ·rw [if_neg c14] at H
        have c14b0 : decide ((l1.length : Int) ≤ x8_1) = false := decide_eq_false c14
        clear c14
        by_cases c20 : 0 ≤ x8_1
        ·rw [if_pos c20] at H
         have c20b0 : decide (0 ≤ x8_1) = true := decide_eq_true c20
         clear c20
         by_cases c21 : x8_1 < (l1.length : Int)
         ·rw [if_pos c21] at H
          have c21b0 : decide (x8_1 < (l1.length : Int)) = true := decide_eq_true c21
          clear c21
          by_cases c22 : x8_1 < (x7_1.length : Int)
          ·rw [if_pos c22] at H
           have c22b0 : decide (x8_1 < (x7_1.length : Int)) = true := decide_eq_true c22
           clear c22
           obtain ⟨y305, hy305⟩ : ∃ y_ : List Bool, y_ = (x7_1.set (x8_1 : Int).toNat (!(rdOf false l1 x8_1))) := ⟨_, rfl⟩
           replace H : (clusterlocksref08_Hopeless.l0 k1 l1 t296 y305 (wrap64 (x8_1 + 1)) a0_0 a0_1 a0_2 a0_3 l0_4) = some r := by first | (rw [hy305]; with_reducible exact H) | (have H2_ := (Option.bind_some _ _).symm.trans H; rw [hy305]; with_reducible exact H2_) | (have H2_ := (Option.bind_some _ _).symm.trans H; with_reducible exact H2_) | with_reducible exact H | (rw [hy305]; exact H) | exact H
           have Ny305 := Aside0.mk hy305
           clear hy305
           have H' := Aside0.mk H
           clear H
           have p304 : 0 ≤ (x8_1 : Int) := of_decide_eq_true (by first | (with_reducible assumption) | assumption)
           have q304 : x8_1 < (l1.length : Int) := of_decide_eq_true (by first | (with_reducible assumption) | assumption)
           obtain ⟨ad304, e304, hx304_0⟩ := Kd.at_bool HR1.out x8_1 p304 q304
           cases e304
           replace hx304_0 := (HB.out.cell (World.block_lt_of_cell? w _ hx304_0)).trans hx304_0
           replace p304 := eq_true p304
           replace q304 := eq_true q304
           have p23 : 0 ≤ (x8_1 : Int) := of_decide_eq_true (by first | (with_reducible assumption) | assumption)
           have q23 : (x8_1 : Int) < ((x7_1.length : Int) : Int) := of_decide_eq_true (by first | (with_reducible assumption) | assumption)
           obtain ⟨go23, co23, eo23, gb23, gl23, cl23, HG23⟩ := Kd.R_form HO_7.out (by omega)
           (first | cases eo23 | (injection eo23 with ea_ en_ ec_; (first | subst ea_ | (injection ea_ with ea_; subst ea_)); subst ec_; clear en_))
           have GB23 := Aside0.mk gb23
           have GG23 := Aside0.mk HG23
           clear gb23 gl23 HG23
           obtain ⟨hx23_0, hf23_0⟩ := Kd.R_celln false HO_7.out (x8_1 : Int) p23 q23
           replace p23 := eq_true p23
           replace q23 := eq_true q23
           have HP24 := Kd.R_putg HO_7.out (x8_1 : Int) (!(rdOf false l1 x8_1))
           go_wp2_with (first | ((with_reducible refine gate_store (t := 4) (p := 38) rfl ?_); refine store_event (t := 4) (p := 38) (v := ?vo_w25) (w1 := (wr.setCell ⟨go23, (x8_1 : Int).toNat, none⟩ (.bool (!(rdOf false l1 x8_1))))) ?hg ?ho ?hn ?hr ?_; (case ho => rfl); (case hg => rfl); (case hn => rfl); (case hr => first | (go_simp; done) | (go_simp; rfl)); intro w25 hw; have hg : wr.grownBy w25 (some go23) := (by rw [hw]; exact HP24.2); have hp_ : Kd.R Kd.bool 4 w25 w.heap.size (fun _ => True) (.slice (some ⟨go23, 0, none⟩) x7_1.length co23) y305 := (by rw [hw, Ny305.out]; exact HP24.1); clear HP24; have n0_ := am (Kd.R_over' (v := (.slice (some ⟨go23, 0, none⟩) x7_1.length co23)) (zR HO_5.out) (Kd.R_typed HO_7.out) (by decide) hg); have n1_ := am (hp_); have n2_ := am (blk_grown (g := gb295) (o := .cells #[.int .i64 a0_0, .string a0_1, .int .i64 a0_2, .int .i64 a0_3, .slice A0_4 l0_4.length c0_4] 28 (0, 0)) (zB BK295.out) hg (Kd.R_ne HO_7.out BK295.out (by decide))); have n3_ := am ((by rw [hw]; exact below_set (HB.out) GB23.out : Below w.heap.size w w25)); clear HO_5 HO_7 BK295 HB; have HO_5 := n0_; have HO_7 := n1_; have BK295 := n2_; have HB := n3_; clear n0_ n1_ n2_ n3_; clear hg hw hp_))
           go_roundg k1
           case measure => have := HK1.out; omega
           case rel => exact ⟨(y305), (wrap64 (x8_1 + 1)), (by first | rfl | (simp; done) | (simp [*]; done)), H', ⟨by have := HK1.out; omega⟩, ⟨by exact zR HO_5.out⟩, ⟨by exact zR HO_7.out⟩, ⟨by exact zB <| BK295.out⟩, ⟨by repeat (first | (with_reducible first | exact HB.out | apply ba | apply bd | apply be | refine below_set ?_ GE295.out) | exact HB.out)⟩⟩
          ·rw [if_neg c22] at H
           exact absurd H (by simp)
         ·rw [if_neg c21] at H
          exact absurd H (by simp)
        ·rw [if_neg c20] at H
         exact absurd H (by simp)
      ·rw [if_neg c13] at H
       have c13b0 : decide (x8_1 < (t296.length : Int)) = false := decide_eq_false c13
       clear c13
       replace H := Option.bind_eq_some_iff.mp H
       obtain ⟨t306, A260, H⟩ := H
       replace H : (some (!t306)) = some r := H
       have A26 := Aside0.mk A260
       clear A260
       obtain rfl := Option.some.inj H
       obtain ⟨hcz27_0, hcz27_1, hcz27_2, hcz27_3, hcz27_4, hfz27_0, hfz27_1, hfz27_2, hfz27_3, hfz27_4⟩ := b5 BK295.out
       obtain ⟨Ao28, co28, eo28⟩ := Kd.R_slice HO_7.out
       subst eo28
       go_wp2_with (first | ((with_reducible refine gate_callee (f := 34) rfl ?_); refine goesL_ (some 42) rfl rfl Try.func34 (by kernel_rfl) rfl #[.agg #[.int .i64 a0_0, .string a0_1, .int .i64 a0_2, .int .i64 a0_3, .slice A0_4 l0_4.length c0_4], .slice Ao10 t296.length co10, .slice Ao28 x7_1.length co28] rfl mp3 ?_; (with_reducible refine (clusterlocksref08_holds.calls k1 a0_0 a0_1 a0_2 a0_3 _ _ l0_4 _ _ t296 _ _ x7_1 t306 _ ?side1 ?side2 ?side3 ?side4 ?side5 ?side6 A26.out).mono ?_); (case side1 => exact zC (Kd.C_below HR0_4.out HB.out)); (case side2 => exact HC0_4.out); (case side3 => exact zC (Kd.R_reads' HO_5.out).2.2); (case side4 => exact (Kd.R_reads' HO_5.out).2.1); (case side5 => exact zC (Kd.R_reads' HO_7.out).2.2); (case side6 => exact (Kd.R_reads' HO_7.out).2.1); rintro e w29 ⟨rfl, hb⟩; refine ⟨_, rfl, ?_⟩; have n0_ := am (Kd.R_below (zR HO_5.out) hb); have n1_ := am (Kd.R_below (zR HO_7.out) hb); have n2_ := am (blk_below (zB BK295.out) hb); have n3_ := am (below_step (zL HB.out) hb); clear HO_5 HO_7 BK295 HB; have HO_5 := n0_; have HO_7 := n1_; have BK295 := n2_; have HB := n3_; clear n0_ n1_ n2_ n3_; (try clear hb); (try clear hb2); (try clear hk); (try clear hi)))
       go_ret
       exact ⟨by first | rfl | (simp [errW_none, errW_some] <;> rfl) | (simp [*, errW_none, errW_some] <;> rfl), by repeat (first | (with_reducible first | exact HB.out | apply ba | apply bd | apply be | refine below_set ?_ GE295.out) | exact HB.out)⟩
   ·rw [if_neg c6] at H
    exact absurd H (by simp)
  ·rw [if_neg c5] at H
   exact absurd H (by simp)
 ·replace c4 := Bool.eq_false_iff.mpr c4
  subst c4
  have H1 : (some false) = some r := by rw [if_neg (show ¬ (false = true) by decide)] at H; exact H
  clear H
  have H := H1
  clear H1
  obtain rfl := Option.some.inj H
  go_enter Try.func18, Try.ntmps18
  go_wp2_with (first | ((with_reducible refine gate_dst (N := 2) rfl ?_); refine box_event ?hg (N := 2) ?hd (cs := #[.int .i64 a0_0, .string a0_1, .int .i64 a0_2, .int .i64 a0_3, .slice A0_4 l0_4.length c0_4]) (t := 28) ?hr ?_; (case hd => rfl); (case hg => rfl); (case hr => first | (go_simp; done) | (go_simp; rfl)); intro gb295 hg w30 hbox hb; have n0_ := am (below_step (zL HB.out) hb); have n1_ := am (hbox); have n2_ := am (zS hg HB.out); have n3_ := am (zS hg HB.out); clear HB; have HB := n0_; have BK295 := n1_; have GW295 := n2_; have GE295 := n3_; clear n0_ n1_ n2_ n3_; clear hb hbox hg; obtain ⟨hcz31_0, hcz31_1, hcz31_2, hcz31_3, hcz31_4, hfz31_0, hfz31_1, hfz31_2, hfz31_3, hfz31_4⟩ := b5 BK295.out) | ((with_reducible refine gate_callee (f := 32) rfl ?_); refine goesL_ (some 11) rfl rfl Try.func32 (by kernel_rfl) rfl #[.agg #[.int .i64 a0_0, .string a0_1, .int .i64 a0_2, .int .i64 a0_3, .slice A0_4 l0_4.length c0_4]] rfl mp1 ?_; (with_reducible refine (clusterlocksref07_Atoms.calls k a0_0 a0_1 a0_2 a0_3 _ _ l0_4 t296 false _ ?side1 ?side2 A3.out).mono ?_); (case side1 => exact zC (Kd.C_below HR0_4.out HB.out)); (case side2 => exact HC0_4.out); rintro e w32 ⟨v297, rfl, ho0, hb⟩; refine ⟨_, rfl, ?_⟩; have n0_ := am (Kd.R_lower ho0 (below_size (zL HB.out))); have n1_ := am (blk_below (zB BK295.out) hb); have n2_ := am (below_step (zL HB.out) hb); clear BK295 HB; have HO298 := n0_; have BK295 := n1_; have HB := n2_; clear n0_ n1_ n2_; (try clear hb); (try clear hb2); (try clear hk); (try clear hi); (try clear ho0)))
  go_ret
  exact ⟨by first | rfl | (simp [errW_none, errW_some] <;> rfl) | (simp [*, errW_none, errW_some] <;> rfl), by repeat (first | (with_reducible first | exact HB.out | apply ba | apply bd | apply be | refine below_set ?_ GE295.out) | exact HB.out)⟩

end Go.Proofs.Ytefbcebpokoinaa.Y

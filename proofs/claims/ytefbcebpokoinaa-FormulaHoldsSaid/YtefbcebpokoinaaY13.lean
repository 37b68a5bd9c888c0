-- Laid by a program of this session's (xprint.py, which runs the kit's print.py with patches of its own). Lean checks it.
import Derived.Test.YtefbcebpokoinaaY0
import Derived.Test.YtefbcebpokoinaaY9
import Derived.Test.YtefbcebpokoinaaY10
import Derived.Test.YtefbcebpokoinaaY12
namespace Go.Proofs.Ytefbcebpokoinaa.Y
open Go.RowKit Go.Proofs.YtefbcebpokoinaaW.PrintWords Go.Proofs.YtefbcebpokoinaaW.PrintLast Go.Proofs.YtefbcebpokoinaaW.PrintMore
attribute [local go_sem] max2_int min2_int max_two min_two max_three min_three max_four min_four   -- for this text's walks alone
set_option linter.unusedVariables false
set_option linter.unusedSimpArgs false

/-! ### clusterlockslaw08_FormulaHolds: function 4 -/
def clusterlockslaw08_FormulaHolds.f (k : Nat) (a0_0 : Int) (a0_1 : ByteArray) (a0_2 : Int) (a0_3 : Int) (l0_4 : List (S28)) (l1 : List Bool) : Option (Bool) := (clusterlockslaw08_awake.f k).bind fun t308 => (if t308 = true then ((formula_Holds.f k a0_0 a0_1 a0_2 a0_3 l0_4 l1).bind fun t309 => ((clusterlocksref08_Holds.f k a0_0 a0_1 a0_2 a0_3 l0_4 l1).bind fun t310 => (if (t309 == t310) = true then ((formula_Hopeless.f k a0_0 a0_1 a0_2 a0_3 l0_4 l1).bind fun t311 => ((clusterlocksref08_Hopeless.f k a0_0 a0_1 a0_2 a0_3 l0_4 l1).bind fun t312 => (some (t311 == t312)))) else (none)))) else (none))
theorem clusterlockslaw08_FormulaHolds.mono : ∀ a0 a1 a2 a3 a4 a5 k, LeO (clusterlockslaw08_FormulaHolds.f k a0 a1 a2 a3 a4 a5) (clusterlockslaw08_FormulaHolds.f (k + 1) a0 a1 a2 a3 a4 a5) := by
 intro a0 a1 a2 a3 a4 a5 k
 unfold clusterlockslaw08_FormulaHolds.f
 repeat' first
   | (with_reducible exact clusterlockslaw08_awake.mono _)
   | (with_reducible exact clusterlocksref08_Holds.mono _ _ _ _ _ _ _)
   | (with_reducible exact clusterlocksref08_Hopeless.mono _ _ _ _ _ _ _)
   | (with_reducible exact formula_Holds.mono _ _ _ _ _ _ _)
   | (with_reducible exact formula_Hopeless.mono _ _ _ _ _ _ _)
   | (with_reducible exact LeO.refl _)
   | (with_reducible exact LeO.none _)
   | (with_reducible refine LeO.ite ?_ ?_)
   | (with_reducible refine LeO.bind ?_ (fun _ => ?_))
   | exact clusterlockslaw08_awake.mono _
   | exact clusterlocksref08_Holds.mono _ _ _ _ _ _ _
   | exact clusterlocksref08_Hopeless.mono _ _ _ _ _ _ _
   | exact formula_Holds.mono _ _ _ _ _ _ _
   | exact formula_Hopeless.mono _ _ _ _ _ _ _
   | exact LeO.none _
   | refine LeO.ite ?_ ?_
   | refine LeO.bind ?_ (fun _ => ?_)
def clusterlockslaw08_FormulaHolds.T1 : Bool × List (List Nat × List Nat) := (true, [([], []), ([0, 0], [0]), ([1], [1]), ([1], [1]), ([2, 3, 1, 1], [1, 2, 3]), ([1], [1]), ([1], [1]), ([5, 6, 4, 1], [1, 5, 6]), ([4, 7, 1], [1, 4, 7]), ([1, 8], [1, 8]), ([9, 7], [9]), ([10], [10]), ([10], [10]), ([11, 12, 10, 10], [10, 11, 12]), ([10], [10]), ([10], [10]), ([14, 15, 13, 10], [10, 14, 15]), ([13, 16, 10], [10, 13, 16]), ([10, 17], [10, 17]), ([18, 16, 0, 1, 2, 3, 4, 5, 6, 7, 8, 9, 10, 11, 12, 13, 14, 15, 16, 17, 18], [18])])
def clusterlockslaw08_FormulaHolds.B1 : List Nat := [0, 1, 3, 3, 15, 3, 3, 127, 255, 511, 1023, 2047, 2047, 8191, 2047, 2047, 65535, 131071, 262143, 524287]
theorem clusterlockslaw08_FormulaHolds.tab1 : rtab .any (opsOf Try.f4 1) = clusterlockslaw08_FormulaHolds.T1 := by kernel_rfl
theorem clusterlockslaw08_FormulaHolds.bits1 : waitsOk clusterlockslaw08_FormulaHolds.T1.2 clusterlockslaw08_FormulaHolds.B1 = true := by kernel_rfl
set_option maxHeartbeats 8000000 in
set_option maxRecDepth 100000 in
theorem clusterlockslaw08_FormulaHolds.calls (k : Nat) (a0_0 : Int) (a0_1 : ByteArray) (a0_2 : Int) (a0_3 : Int) (A0_4 : Option Addr) (c0_4 : Nat) (l0_4 : List (S28)) (A1 : Option Addr) (c1 : Nat) (l1 : List Bool) (r : Bool) (w : World) (hr0_4 : Kd.C k28 w A0_4 l0_4.length l0_4) (hc0_4 : l0_4.length ≤ c0_4) (hr1 : Kd.C Kd.bool w A1 l1.length l1) (hc1 : l1.length ≤ c1) (h : clusterlockslaw08_FormulaHolds.f k a0_0 a0_1 a0_2 a0_3 l0_4 l1 = some r) :
  Calls Try.prog 4 #[.agg #[.int .i64 a0_0, .string a0_1, .int .i64 a0_2, .int .i64 a0_3, .slice A0_4 l0_4.length c0_4], .slice A1 l1.length c1] w fun e w' => e = .returned (.bool r) ∧ Below w.heap.size w w' := by
 have hu28 := Try.underlying28
 have HR0_4 := Aside0.mk hr0_4
 have HC0_4 := Aside0.mk hc0_4
 clear hr0_4 hc0_4
 have HR1 := Aside0.mk hr1
 have HC1 := Aside0.mk hc1
 clear hr1 hc1
 have HB := am (Below.refl w.heap.size w)
 have H : ((clusterlockslaw08_awake.f k).bind fun t308 => (if t308 = true then ((formula_Holds.f k a0_0 a0_1 a0_2 a0_3 l0_4 l1).bind fun t309 => ((clusterlocksref08_Holds.f k a0_0 a0_1 a0_2 a0_3 l0_4 l1).bind fun t310 => (if (t309 == t310) = true then ((formula_Hopeless.f k a0_0 a0_1 a0_2 a0_3 l0_4 l1).bind fun t311 => ((clusterlocksref08_Hopeless.f k a0_0 a0_1 a0_2 a0_3 l0_4 l1).bind fun t312 => (some (t311 == t312)))) else (none)))) else (none))) = some r := h
 clear h
 replace H := Option.bind_eq_some_iff.mp H
 obtain ⟨t308, A30, H⟩ := H
 replace H : (if t308 = true then ((formula_Holds.f k a0_0 a0_1 a0_2 a0_3 l0_4 l1).bind fun t309 => ((clusterlocksref08_Holds.f k a0_0 a0_1 a0_2 a0_3 l0_4 l1).bind fun t310 => (if (t309 == t310) = true then ((formula_Hopeless.f k a0_0 a0_1 a0_2 a0_3 l0_4 l1).bind fun t311 => ((clusterlocksref08_Hopeless.f k a0_0 a0_1 a0_2 a0_3 l0_4 l1).bind fun t312 => (some (t311 == t312)))) else (none)))) else (none)) = some r := H
 have A3 := Aside0.mk A30
 clear A30
 by_cases c4 : t308 = true
 ·subst c4
  have H1 : ((formula_Holds.f k a0_0 a0_1 a0_2 a0_3 l0_4 l1).bind fun t309 => ((clusterlocksref08_Holds.f k a0_0 a0_1 a0_2 a0_3 l0_4 l1).bind fun t310 => (if (t309 == t310) = true then ((formula_Hopeless.f k a0_0 a0_1 a0_2 a0_3 l0_4 l1).bind fun t311 => ((clusterlocksref08_Hopeless.f k a0_0 a0_1 a0_2 a0_3 l0_4 l1).bind fun t312 => (some (t311 == t312)))) else (none)))) = some r := by rw [if_pos rfl] at H; exact H
  clear H
  have H := H1
  clear H1
  replace H := Option.bind_eq_some_iff.mp H
  obtain ⟨t309, A50, H⟩ := H
  replace H : ((clusterlocksref08_Holds.f k a0_0 a0_1 a0_2 a0_3 l0_4 l1).bind fun t310 => (if (t309 == t310) = true then ((formula_Hopeless.f k a0_0 a0_1 a0_2 a0_3 l0_4 l1).bind fun t311 => ((clusterlocksref08_Hopeless.f k a0_0 a0_1 a0_2 a0_3 l0_4 l1).bind fun t312 => (some (t311 == t312)))) else (none))) = some r := H
  have A5 := Aside0.mk A50
  clear A50
  replace H := Option.bind_eq_some_iff.mp H
  obtain ⟨t310, A60, H⟩ := H
  replace H : (if (t309 == t310) = true then ((formula_Hopeless.f k a0_0 a0_1 a0_2 a0_3 l0_4 l1).bind fun t311 => ((clusterlocksref08_Hopeless.f k a0_0 a0_1 a0_2 a0_3 l0_4 l1).bind fun t312 => (some (t311 == t312)))) else (none)) = some r := H
  have A6 := Aside0.mk A60
  clear A60
  by_cases c7 : (t309 == t310) = true
  ·rw [if_pos c7] at H
   have c7b0 : (t309 == t310) = true := c7
   (try (have c7b1 : decide (t309 = t310) = true := by simpa using c7))
   (try (have c7b2 : (t309 == t310) = true := by simpa using c7))
   clear c7
   replace H := Option.bind_eq_some_iff.mp H
   obtain ⟨t311, A80, H⟩ := H
   replace H : ((clusterlocksref08_Hopeless.f k a0_0 a0_1 a0_2 a0_3 l0_4 l1).bind fun t312 => (some (t311 == t312))) = some r := H
   have A8 := Aside0.mk A80
   clear A80
   replace H := Option.bind_eq_some_iff.mp H
   obtain ⟨t312, A90, H⟩ := H
   replace H : (some (t311 == t312)) = some r := H
   have A9 := Aside0.mk A90
   clear A90
   obtain rfl := Option.some.inj H
   go_enter Try.func4, Try.ntmps4
   try go_wp2_with (first | ((with_reducible refine gate_dst (N := 2) rfl ?_); refine box_event ?hg (N := 2) ?hd (cs := #[.int .i64 a0_0, .string a0_1, .int .i64 a0_2, .int .i64 a0_3, .slice A0_4 l0_4.length c0_4]) (t := 28) ?hr ?_; (case hd => rfl); (case hg => rfl); (case hr => first | (go_simp; done) | (go_simp; rfl)); intro gb307 hg w10 hbox hb; have n0_ := am (below_step (zL HB.out) hb); have n1_ := am (hbox); have n2_ := am (zS hg HB.out); have n3_ := am (zS hg HB.out); clear HB; have HB := n0_; have BK307 := n1_; have GW307 := n2_; have GE307 := n3_; clear n0_ n1_ n2_ n3_; clear hb hbox hg))
   have n0_ := am (blk_drew BK307.out)
   have n1_ := am (below_drew1 HB.out)
   clear BK307 HB
   have BK307 := n0_
   have HB := n1_
   clear n0_ n1_
   refine start_ (n := 20) (S := fun w' => w'.cell? ⟨gb307, 0, none⟩ = some (.int .i64 a0_0) ∧ w'.cell? ⟨gb307, 1, none⟩ = some (.string a0_1) ∧ w'.cell? ⟨gb307, 2, none⟩ = some (.int .i64 a0_2) ∧ w'.cell? ⟨gb307, 3, none⟩ = some (.int .i64 a0_3) ∧ w'.cell? ⟨gb307, 4, none⟩ = some (.slice A0_4 l0_4.length c0_4)) (ds := []) #[false, false, false, false, false, false, false, false, false, false, false, false, false, false, false, false, false, false, false, false] (by kernel_rfl) rfl rfl ⟨(blk_cell BK307.out 0).trans rfl, (blk_cell BK307.out 1).trans rfl, (blk_cell BK307.out 2).trans rfl, (blk_cell BK307.out 3).trans rfl, (blk_cell BK307.out 4).trans rfl⟩ (fun hHeld => ?_); refine with_tabW clusterlockslaw08_FormulaHolds.tab1 clusterlockslaw08_FormulaHolds.bits1 (fun HT_ HW_ => ?_)
   generalize w10.drew = w11 at BK307 HB hHeld ⊢
   refine one_ (i := 0) (N := some 5) #[true, false, false, false, false, false, false, false, false, false, false, false, false, false, false, false, false, false, false, false] rfl rfl (one_of HT_.out (by kernel_rfl)) (by decide) (fun K hK => ?_)
   refine goes_ Try.func14 (by kernel_rfl) rfl #[] (by rfl) rfl rfl (by (try simp only [List.map_toArray, List.map_cons, List.map_nil]); first | done | rfl | (simp only [List.length_drop, List.length_take]; rfl)) ?_
   with_reducible refine (clusterlockslaw08_awake.calls k  true _ A3.out).mono ?_
   rintro e w12 ⟨rfl, hb⟩
   refine ⟨_, rfl, ?_⟩
   have n0_ := am (blk_below (zB BK307.out) hb)
   have n1_ := am (below_step (zL HB.out) hb)
   clear BK307 HB
   have BK307 := n0_
   have HB := n1_
   clear n0_ n1_
   (try clear hb)
   (try clear hb2)
   (try clear hk)
   (try clear hi)
   refine hK.out _ _ ⟨(blk_cell BK307.out 0).trans rfl, (blk_cell BK307.out 1).trans rfl, (blk_cell BK307.out 2).trans rfl, (blk_cell BK307.out 3).trans rfl, (blk_cell BK307.out 4).trans rfl⟩ (fun hHeld => ?_)
   clear hK K
   refine norm_ (a' := ?_) ?_ ?_
   rotate_left
   ·show Act.put _ (some 5) _ = _
    simp only [Act.put, List.setIfInBounds_toArray, List.set_cons_zero, List.set_cons_succ, i64_w, i32_w]
    rfl
   refine pure_ (i := 1) (N := some 6) (v := ?_) (a' := ?_) #[true, true, false, false, false, false, false, false, false, false, false, false, false, false, false, false, false, false, false, false] rfl rfl (any_of HT_.out (by kernel_rfl)) (fun _ _ _ h => h) (Or.inl ⟨by rfl, ?_⟩) ?_ ?_
   rotate_left
   ·intro w'
    go_simp
    with_reducible rfl
   rotate_left
   ·simp only [Act.put, List.setIfInBounds_toArray, List.set_cons_zero, List.set_cons_succ, i64_w, i32_w]
    rfl
   refine pure_ (i := 3) (N := some 8) (v := ?_) (a' := ?_) #[true, true, false, true, false, false, false, false, false, false, false, false, false, false, false, false, false, false, false, false] rfl rfl (any_of HT_.out (by kernel_rfl)) (fun _ _ _ h => h) (Or.inl ⟨by rfl, ?_⟩) ?_ ?_
   rotate_left
   ·intro w'
    go_simp
    with_reducible rfl
   rotate_left
   ·simp only [Act.put, List.setIfInBounds_toArray, List.set_cons_zero, List.set_cons_succ, i64_w, i32_w]
    rfl
   refine pure_ (i := 6) (N := some 11) (v := ?_) (a' := ?_) #[true, true, false, true, false, false, true, false, false, false, false, false, false, false, false, false, false, false, false, false] rfl rfl (any_of HT_.out (by kernel_rfl)) (fun _ _ _ h => h) (Or.inl ⟨by rfl, ?_⟩) ?_ ?_
   rotate_left
   ·intro w'
    go_simp
    with_reducible rfl
   rotate_left
   ·simp only [Act.put, List.setIfInBounds_toArray, List.set_cons_zero, List.set_cons_succ, i64_w, i32_w]
    rfl
   refine take_ (i := 2) (N := some 7) (v := ?_) (a' := ?_) #[true, true, true, true, false, false, true, false, false, false, false, false, false, false, false, false, false, false, false, false] rfl rfl (take_ofW HT_.out HW_.out (by kernel_rfl)) (fun _ _ _ h => h) (Or.inl ⟨by rfl, ?_⟩) hHeld ?_ ?_
   rotate_left
   ·rintro w' ⟨s0, s1, s2, s3, s4⟩
    go_simp
    with_reducible rfl
   rotate_left
   ·simp only [Act.put, List.setIfInBounds_toArray, List.set_cons_zero, List.set_cons_succ, i64_w, i32_w]
    rfl
   refine take_ (i := 5) (N := some 10) (v := ?_) (a' := ?_) #[true, true, true, true, false, true, true, false, false, false, false, false, false, false, false, false, false, false, false, false] rfl rfl (take_ofW HT_.out HW_.out (by kernel_rfl)) (fun _ _ _ h => h) (Or.inl ⟨by rfl, ?_⟩) hHeld ?_ ?_
   rotate_left
   ·rintro w' ⟨s0, s1, s2, s3, s4⟩
    go_simp
    with_reducible rfl
   rotate_left
   ·simp only [Act.put, List.setIfInBounds_toArray, List.set_cons_zero, List.set_cons_succ, i64_w, i32_w]
    rfl
   refine one_ (i := 4) (N := some 9) #[true, true, true, true, true, true, true, false, false, false, false, false, false, false, false, false, false, false, false, false] rfl rfl (one_of HT_.out (by kernel_rfl)) (by decide) (fun K hK => ?_)
   refine goes_ Try.func15 (by kernel_rfl) rfl #[.agg #[.int .i64 a0_0, .string a0_1, .int .i64 a0_2, .int .i64 a0_3, .slice A0_4 l0_4.length c0_4], .slice A1 l1.length c1] (by rfl) rfl rfl (by (try simp only [List.map_toArray, List.map_cons, List.map_nil]); first | done | rfl | (simp only [List.length_drop, List.length_take]; rfl)) ?_
   with_reducible refine (formula_Holds.calls k a0_0 a0_1 a0_2 a0_3 _ _ l0_4 _ _ l1 t309 _ ?side1 ?side2 ?side3 ?side4 A5.out).mono ?_
   (case side1 => exact zC (Kd.C_below HR0_4.out HB.out))
   (case side2 => exact HC0_4.out)
   (case side3 => exact zC (Kd.C_below HR1.out HB.out))
   (case side4 => exact HC1.out)
   rintro e w13 ⟨rfl, hb⟩
   refine ⟨_, rfl, ?_⟩
   have n0_ := am (blk_below (zB BK307.out) hb)
   have n1_ := am (below_step (zL HB.out) hb)
   clear BK307 HB
   have BK307 := n0_
   have HB := n1_
   clear n0_ n1_
   (try clear hb)
   (try clear hb2)
   (try clear hk)
   (try clear hi)
   refine hK.out _ _ ⟨(blk_cell BK307.out 0).trans rfl, (blk_cell BK307.out 1).trans rfl, (blk_cell BK307.out 2).trans rfl, (blk_cell BK307.out 3).trans rfl, (blk_cell BK307.out 4).trans rfl⟩ (fun hHeld => ?_)
   clear hK K
   refine norm_ (a' := ?_) ?_ ?_
   rotate_left
   ·show Act.put _ (some 9) _ = _
    simp only [Act.put, List.setIfInBounds_toArray, List.set_cons_zero, List.set_cons_succ, i64_w, i32_w]
    rfl
   refine one_ (i := 7) (N := some 12) #[true, true, true, true, true, true, true, true, false, false, false, false, false, false, false, false, false, false, false, false] rfl rfl (one_of HT_.out (by kernel_rfl)) (by decide) (fun K hK => ?_)
   refine goes_ Try.func16 (by kernel_rfl) rfl #[.agg #[.int .i64 a0_0, .string a0_1, .int .i64 a0_2, .int .i64 a0_3, .slice A0_4 l0_4.length c0_4], .slice A1 l1.length c1] (by rfl) rfl rfl (by (try simp only [List.map_toArray, List.map_cons, List.map_nil]); first | done | rfl | (simp only [List.length_drop, List.length_take]; rfl)) ?_
   with_reducible refine (clusterlocksref08_Holds.calls k a0_0 a0_1 a0_2 a0_3 _ _ l0_4 _ _ l1 t310 _ ?side1 ?side2 ?side3 ?side4 A6.out).mono ?_
   (case side1 => exact zC (Kd.C_below HR0_4.out HB.out))
   (case side2 => exact HC0_4.out)
   (case side3 => exact zC (Kd.C_below HR1.out HB.out))
   (case side4 => exact HC1.out)
   rintro e w14 ⟨rfl, hb⟩
   refine ⟨_, rfl, ?_⟩
   have n0_ := am (blk_below (zB BK307.out) hb)
   have n1_ := am (below_step (zL HB.out) hb)
   clear BK307 HB
   have BK307 := n0_
   have HB := n1_
   clear n0_ n1_
   (try clear hb)
   (try clear hb2)
   (try clear hk)
   (try clear hi)
   refine hK.out _ _ ⟨(blk_cell BK307.out 0).trans rfl, (blk_cell BK307.out 1).trans rfl, (blk_cell BK307.out 2).trans rfl, (blk_cell BK307.out 3).trans rfl, (blk_cell BK307.out 4).trans rfl⟩ (fun hHeld => ?_)
   clear hK K
   refine norm_ (a' := ?_) ?_ ?_
   rotate_left
   ·show Act.put _ (some 12) _ = _
    simp only [Act.put, List.setIfInBounds_toArray, List.set_cons_zero, List.set_cons_succ, i64_w, i32_w]
    rfl
   refine pure_ (i := 8) (N := some 13) (v := ?_) (a' := ?_) #[true, true, true, true, true, true, true, true, true, false, false, false, false, false, false, false, false, false, false, false] rfl rfl (any_of HT_.out (by kernel_rfl)) (fun _ _ _ h => h) (Or.inl ⟨by rfl, ?_⟩) ?_ ?_
   rotate_left
   ·intro w'
    go_simp
    with_reducible rfl
   rotate_left
   ·simp only [Act.put, List.setIfInBounds_toArray, List.set_cons_zero, List.set_cons_succ, i64_w, i32_w]
    rfl
   refine pure_ (i := 9) (N := some 14) (v := ?_) (a' := ?_) #[true, true, true, true, true, true, true, true, true, true, false, false, false, false, false, false, false, false, false, false] rfl rfl (any_of HT_.out (by kernel_rfl)) (fun _ _ _ h => h) (Or.inl ⟨by rfl, ?_⟩) ?_ ?_
   rotate_left
   ·intro w'
    go_simp
    with_reducible rfl
   rotate_left
   ·simp only [Act.put, List.setIfInBounds_toArray, List.set_cons_zero, List.set_cons_succ, i64_w, i32_w]
    rfl
   refine pure_ (i := 10) (N := some 15) (v := ?_) (a' := ?_) #[true, true, true, true, true, true, true, true, true, true, true, false, false, false, false, false, false, false, false, false] rfl rfl (any_of HT_.out (by kernel_rfl)) (fun _ _ _ h => h) (Or.inl ⟨by rfl, ?_⟩) ?_ ?_
   rotate_left
   ·intro w'
    go_simp
    with_reducible rfl
   rotate_left
   ·simp only [Act.put, List.setIfInBounds_toArray, List.set_cons_zero, List.set_cons_succ, i64_w, i32_w]
    rfl
   refine pure_ (i := 12) (N := some 17) (v := ?_) (a' := ?_) #[true, true, true, true, true, true, true, true, true, true, true, false, true, false, false, false, false, false, false, false] rfl rfl (any_of HT_.out (by kernel_rfl)) (fun _ _ _ h => h) (Or.inl ⟨by rfl, ?_⟩) ?_ ?_
   rotate_left
   ·intro w'
    go_simp
    with_reducible rfl
   rotate_left
   ·simp only [Act.put, List.setIfInBounds_toArray, List.set_cons_zero, List.set_cons_succ, i64_w, i32_w]
    rfl
   refine pure_ (i := 15) (N := some 20) (v := ?_) (a' := ?_) #[true, true, true, true, true, true, true, true, true, true, true, false, true, false, false, true, false, false, false, false] rfl rfl (any_of HT_.out (by kernel_rfl)) (fun _ _ _ h => h) (Or.inl ⟨by rfl, ?_⟩) ?_ ?_
   rotate_left
   ·intro w'
    go_simp
    with_reducible rfl
   rotate_left
   ·simp only [Act.put, List.setIfInBounds_toArray, List.set_cons_zero, List.set_cons_succ, i64_w, i32_w]
    rfl
   refine take_ (i := 11) (N := some 16) (v := ?_) (a' := ?_) #[true, true, true, true, true, true, true, true, true, true, true, true, true, false, false, true, false, false, false, false] rfl rfl (take_ofW HT_.out HW_.out (by kernel_rfl)) (fun _ _ _ h => h) (Or.inl ⟨by rfl, ?_⟩) hHeld ?_ ?_
   rotate_left
   ·rintro w' ⟨s0, s1, s2, s3, s4⟩
    go_simp
    with_reducible rfl
   rotate_left
   ·simp only [Act.put, List.setIfInBounds_toArray, List.set_cons_zero, List.set_cons_succ, i64_w, i32_w]
    rfl
   refine take_ (i := 14) (N := some 19) (v := ?_) (a' := ?_) #[true, true, true, true, true, true, true, true, true, true, true, true, true, false, true, true, false, false, false, false] rfl rfl (take_ofW HT_.out HW_.out (by kernel_rfl)) (fun _ _ _ h => h) (Or.inl ⟨by rfl, ?_⟩) hHeld ?_ ?_
   rotate_left
   ·rintro w' ⟨s0, s1, s2, s3, s4⟩
    go_simp
    with_reducible rfl
   rotate_left
   ·simp only [Act.put, List.setIfInBounds_toArray, List.set_cons_zero, List.set_cons_succ, i64_w, i32_w]
    rfl
   refine one_ (i := 13) (N := some 18) #[true, true, true, true, true, true, true, true, true, true, true, true, true, true, true, true, false, false, false, false] rfl rfl (one_of HT_.out (by kernel_rfl)) (by decide) (fun K hK => ?_)
   refine goes_ Try.func17 (by kernel_rfl) rfl #[.agg #[.int .i64 a0_0, .string a0_1, .int .i64 a0_2, .int .i64 a0_3, .slice A0_4 l0_4.length c0_4], .slice A1 l1.length c1] (by rfl) rfl rfl (by (try simp only [List.map_toArray, List.map_cons, List.map_nil]); first | done | rfl | (simp only [List.length_drop, List.length_take]; rfl)) ?_
   with_reducible refine (formula_Hopeless.calls k a0_0 a0_1 a0_2 a0_3 _ _ l0_4 _ _ l1 t311 _ ?side1 ?side2 ?side3 ?side4 A8.out).mono ?_
   (case side1 => exact zC (Kd.C_below HR0_4.out HB.out))
   (case side2 => exact HC0_4.out)
   (case side3 => exact zC (Kd.C_below HR1.out HB.out))
   (case side4 => exact HC1.out)
   rintro e w15 ⟨rfl, hb⟩
   refine ⟨_, rfl, ?_⟩
   have n0_ := am (blk_below (zB BK307.out) hb)
   have n1_ := am (below_step (zL HB.out) hb)
   clear BK307 HB
   have BK307 := n0_
   have HB := n1_
   clear n0_ n1_
   (try clear hb)
   (try clear hb2)
   (try clear hk)
   (try clear hi)
   refine hK.out _ _ ⟨(blk_cell BK307.out 0).trans rfl, (blk_cell BK307.out 1).trans rfl, (blk_cell BK307.out 2).trans rfl, (blk_cell BK307.out 3).trans rfl, (blk_cell BK307.out 4).trans rfl⟩ (fun hHeld => ?_)
   clear hK K
   refine norm_ (a' := ?_) ?_ ?_
   rotate_left
   ·show Act.put _ (some 18) _ = _
    simp only [Act.put, List.setIfInBounds_toArray, List.set_cons_zero, List.set_cons_succ, i64_w, i32_w]
    rfl
   refine one_ (i := 16) (N := some 21) #[true, true, true, true, true, true, true, true, true, true, true, true, true, true, true, true, true, false, false, false] rfl rfl (one_of HT_.out (by kernel_rfl)) (by decide) (fun K hK => ?_)
   refine goes_ Try.func18 (by kernel_rfl) rfl #[.agg #[.int .i64 a0_0, .string a0_1, .int .i64 a0_2, .int .i64 a0_3, .slice A0_4 l0_4.length c0_4], .slice A1 l1.length c1] (by rfl) rfl rfl (by (try simp only [List.map_toArray, List.map_cons, List.map_nil]); first | done | rfl | (simp only [List.length_drop, List.length_take]; rfl)) ?_
   with_reducible refine (clusterlocksref08_Hopeless.calls k a0_0 a0_1 a0_2 a0_3 _ _ l0_4 _ _ l1 t312 _ ?side1 ?side2 ?side3 ?side4 A9.out).mono ?_
   (case side1 => exact zC (Kd.C_below HR0_4.out HB.out))
   (case side2 => exact HC0_4.out)
   (case side3 => exact zC (Kd.C_below HR1.out HB.out))
   (case side4 => exact HC1.out)
   rintro e w16 ⟨rfl, hb⟩
   refine ⟨_, rfl, ?_⟩
   have n0_ := am (blk_below (zB BK307.out) hb)
   have n1_ := am (below_step (zL HB.out) hb)
   clear BK307 HB
   have BK307 := n0_
   have HB := n1_
   clear n0_ n1_
   (try clear hb)
   (try clear hb2)
   (try clear hk)
   (try clear hi)
   refine hK.out _ _ ⟨(blk_cell BK307.out 0).trans rfl, (blk_cell BK307.out 1).trans rfl, (blk_cell BK307.out 2).trans rfl, (blk_cell BK307.out 3).trans rfl, (blk_cell BK307.out 4).trans rfl⟩ (fun hHeld => ?_)
   clear hK K
   refine norm_ (a' := ?_) ?_ ?_
   rotate_left
   ·show Act.put _ (some 21) _ = _
    simp only [Act.put, List.setIfInBounds_toArray, List.set_cons_zero, List.set_cons_succ, i64_w, i32_w]
    rfl
   refine pure_ (i := 17) (N := some 22) (v := ?_) (a' := ?_) #[true, true, true, true, true, true, true, true, true, true, true, true, true, true, true, true, true, true, false, false] rfl rfl (any_of HT_.out (by kernel_rfl)) (fun _ _ _ h => h) (Or.inl ⟨by rfl, ?_⟩) ?_ ?_
   rotate_left
   ·intro w'
    go_simp
    with_reducible rfl
   rotate_left
   ·simp only [Act.put, List.setIfInBounds_toArray, List.set_cons_zero, List.set_cons_succ, i64_w, i32_w]
    rfl
   refine pure_ (i := 18) (N := some 23) (v := ?_) (a' := ?_) #[true, true, true, true, true, true, true, true, true, true, true, true, true, true, true, true, true, true, true, false] rfl rfl (any_of HT_.out (by kernel_rfl)) (fun _ _ _ h => h) (Or.inl ⟨by rfl, ?_⟩) ?_ ?_
   rotate_left
   ·intro w'
    go_simp
    with_reducible rfl
   rotate_left
   ·simp only [Act.put, List.setIfInBounds_toArray, List.set_cons_zero, List.set_cons_succ, i64_w, i32_w]
    rfl
   refine pure_ (i := 19) (N := some 4) (v := ?_) (a' := ?_) #[true, true, true, true, true, true, true, true, true, true, true, true, true, true, true, true, true, true, true, true] rfl rfl (any_of HT_.out (by kernel_rfl)) (fun _ _ _ h => h) (Or.inl ⟨by rfl, ?_⟩) ?_ ?_
   rotate_left
   ·intro w'
    go_simp
    with_reducible rfl
   rotate_left
   ·simp only [Act.put, List.setIfInBounds_toArray, List.set_cons_zero, List.set_cons_succ, i64_w, i32_w]
    rfl
   refine done_ (done_of HT_.out (by kernel_rfl)) ?_
   try go_wp2
   go_ret
   exact ⟨by first | rfl | (simp [errW_none, errW_some] <;> rfl) | (simp [*, errW_none, errW_some] <;> rfl), by repeat (first | (with_reducible first | exact HB.out | apply ba | apply bd | apply be | refine below_set ?_ GE307.out) | exact HB.out)⟩
  ·rw [if_neg c7] at H
   have c7b0 : (t309 == t310) = false := by simpa using c7
   (try (have c7b1 : decide (t309 = t310) = false := by simpa using c7))
   (try (have c7b2 : (t309 == t310) = false := by simpa using c7))
   (try (have c7b3 : ¬ (t309 = t310) := by simpa using c7))
   clear c7
   exact absurd H (by simp)
 ·replace c4 := Bool.eq_false_iff.mpr c4
  subst c4
  have H1 : (none) = some r := by rw [if_neg (show ¬ (false = true) by decide)] at H; exact H
  clear H
  have H := H1
  clear H1
  exact absurd H (by simp)

end Go.Proofs.Ytefbcebpokoinaa.Y

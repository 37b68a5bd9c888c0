-- Laid by a program of this session's (xprint.py, which runs the kit's print.py with patches of its own). Lean checks it.
import Derived.Test.YtefbcebpokoinaaY0
import Derived.Test.YtefbcebpokoinaaY10
import Derived.Test.YtefbcebpokoinaaY25
import Derived.Test.YtefbcebpokoinaaY27
namespace Go.Proofs.Ytefbcebpokoinaa.Y
open Go.RowKit Go.Proofs.YtefbcebpokoinaaW.PrintWords Go.Proofs.YtefbcebpokoinaaW.PrintLast Go.Proofs.YtefbcebpokoinaaW.PrintMore
attribute [local go_sem] max2_int min2_int max_two min_two max_three min_three max_four min_four   -- for this text's walks alone
set_option linter.unusedVariables false
set_option linter.unusedSimpArgs false

/-! ### clusterlockslaw08_FormulaResolves: function 10 -/
def clusterlockslaw08_FormulaResolves.f (k : Nat) (l0 : List (S59)) (a1_0 : Int) (a1_1 : ByteArray) (a1_2 : Int) (a1_3 : Int) (l1_4 : List (S28)) : Option (Bool) := (clusterlockslaw08_awake.f k).bind fun t577 => (if t577 = true then ((formula_Resolve.f k l0 a1_0 a1_1 a1_2 a1_3 l1_4).bind fun t578 => ((clusterlocksref08_Resolve.f k l0 a1_0 a1_1 a1_2 a1_3 l1_4).bind fun t579 => (some (t578 == t579)))) else (none))
theorem clusterlockslaw08_FormulaResolves.mono : ∀ a0 a1 a2 a3 a4 a5 k, LeO (clusterlockslaw08_FormulaResolves.f k a0 a1 a2 a3 a4 a5) (clusterlockslaw08_FormulaResolves.f (k + 1) a0 a1 a2 a3 a4 a5) := by
 intro a0 a1 a2 a3 a4 a5 k
 unfold clusterlockslaw08_FormulaResolves.f
 repeat' first
   | (with_reducible exact clusterlockslaw08_awake.mono _)
   | (with_reducible exact clusterlocksref08_Resolve.mono _ _ _ _ _ _ _)
   | (with_reducible exact formula_Resolve.mono _ _ _ _ _ _ _)
   | (with_reducible exact LeO.refl _)
   | (with_reducible exact LeO.none _)
   | (with_reducible refine LeO.ite ?_ ?_)
   | (with_reducible refine LeO.bind ?_ (fun _ => ?_))
   | exact clusterlockslaw08_awake.mono _
   | exact clusterlocksref08_Resolve.mono _ _ _ _ _ _ _
   | exact formula_Resolve.mono _ _ _ _ _ _ _
   | exact LeO.none _
   | refine LeO.ite ?_ ?_
   | refine LeO.bind ?_ (fun _ => ?_)
def clusterlockslaw08_FormulaResolves.T1 : Bool × List (List Nat × List Nat) := (true, [([], []), ([0, 0], [0]), ([1], [1]), ([1], [1]), ([2, 3, 1, 1], [1, 2, 3]), ([1], [1]), ([1], [1]), ([5, 6, 4, 1], [1, 5, 6]), ([4, 7, 1], [1, 4, 7]), ([1, 8], [1, 8]), ([9, 7, 0, 1, 2, 3, 4, 5, 6, 7, 8, 9], [9])])
def clusterlockslaw08_FormulaResolves.B1 : List Nat := [0, 1, 3, 3, 15, 3, 3, 127, 255, 511, 1023]
theorem clusterlockslaw08_FormulaResolves.tab1 : rtab .any (opsOf Try.f10 1) = clusterlockslaw08_FormulaResolves.T1 := by kernel_rfl
theorem clusterlockslaw08_FormulaResolves.bits1 : waitsOk clusterlockslaw08_FormulaResolves.T1.2 clusterlockslaw08_FormulaResolves.B1 = true := by kernel_rfl
set_option maxHeartbeats 8000000 in
set_option maxRecDepth 100000 in
theorem clusterlockslaw08_FormulaResolves.calls (k : Nat) (A0 : Option Addr) (c0 : Nat) (l0 : List (S59)) (a1_0 : Int) (a1_1 : ByteArray) (a1_2 : Int) (a1_3 : Int) (A1_4 : Option Addr) (c1_4 : Nat) (l1_4 : List (S28)) (r : Bool) (w : World) (hr0 : Kd.C k59 w A0 l0.length l0) (hc0 : l0.length ≤ c0) (hr1_4 : Kd.C k28 w A1_4 l1_4.length l1_4) (hc1_4 : l1_4.length ≤ c1_4) (h : clusterlockslaw08_FormulaResolves.f k l0 a1_0 a1_1 a1_2 a1_3 l1_4 = some r) :
  Calls Try.prog 10 #[.slice A0 l0.length c0, .agg #[.int .i64 a1_0, .string a1_1, .int .i64 a1_2, .int .i64 a1_3, .slice A1_4 l1_4.length c1_4]] w fun e w' => e = .returned (.bool r) ∧ Below w.heap.size w w' := by
 have hu28 := Try.underlying28
 have HR0 := Aside0.mk hr0
 have HC0 := Aside0.mk hc0
 clear hr0 hc0
 have HR1_4 := Aside0.mk hr1_4
 have HC1_4 := Aside0.mk hc1_4
 clear hr1_4 hc1_4
 have HB := am (Below.refl w.heap.size w)
 have H : ((clusterlockslaw08_awake.f k).bind fun t577 => (if t577 = true then ((formula_Resolve.f k l0 a1_0 a1_1 a1_2 a1_3 l1_4).bind fun t578 => ((clusterlocksref08_Resolve.f k l0 a1_0 a1_1 a1_2 a1_3 l1_4).bind fun t579 => (some (t578 == t579)))) else (none))) = some r := h
 clear h
 replace H := Option.bind_eq_some_iff.mp H
 obtain ⟨t577, A30, H⟩ := H
 replace H : (if t577 = true then ((formula_Resolve.f k l0 a1_0 a1_1 a1_2 a1_3 l1_4).bind fun t578 => ((clusterlocksref08_Resolve.f k l0 a1_0 a1_1 a1_2 a1_3 l1_4).bind fun t579 => (some (t578 == t579)))) else (none)) = some r := H
 have A3 := Aside0.mk A30
 clear A30
 by_cases c4 : t577 = true
 ·subst c4
  have H1 : ((formula_Resolve.f k l0 a1_0 a1_1 a1_2 a1_3 l1_4).bind fun t578 => ((clusterlocksref08_Resolve.f k l0 a1_0 a1_1 a1_2 a1_3 l1_4).bind fun t579 => (some (t578 == t579)))) = some r := by rw [if_pos rfl] at H; exact H
  clear H
  have H := H1
  clear H1
  replace H := Option.bind_eq_some_iff.mp H
  obtain ⟨t578, A50, H⟩ := H
  replace H : ((clusterlocksref08_Resolve.f k l0 a1_0 a1_1 a1_2 a1_3 l1_4).bind fun t579 => (some (t578 == t579))) = some r := H
  have A5 := Aside0.mk A50
  clear A50
  replace H := Option.bind_eq_some_iff.mp H
  obtain ⟨t579, A60, H⟩ := H
  replace H : (some (t578 == t579)) = some r := H
  have A6 := Aside0.mk A60
  clear A60
  obtain rfl := Option.some.inj H
  go_enter Try.func10, Try.ntmps10
  try go_wp2_with (first | ((with_reducible refine gate_dst (N := 3) rfl ?_); refine box_event ?hg (N := 3) ?hd (cs := #[.int .i64 a1_0, .string a1_1, .int .i64 a1_2, .int .i64 a1_3, .slice A1_4 l1_4.length c1_4]) (t := 28) ?hr ?_; (case hd => rfl); (case hg => rfl); (case hr => first | (go_simp; done) | (go_simp; rfl)); intro gb576 hg w7 hbox hb; have n0_ := am (below_step (zL HB.out) hb); have n1_ := am (hbox); have n2_ := am (zS hg HB.out); have n3_ := am (zS hg HB.out); clear HB; have HB := n0_; have BK576 := n1_; have GW576 := n2_; have GE576 := n3_; clear n0_ n1_ n2_ n3_; clear hb hbox hg))
  have n0_ := am (blk_drew BK576.out)
  have n1_ := am (below_drew1 HB.out)
  clear BK576 HB
  have BK576 := n0_
  have HB := n1_
  clear n0_ n1_
  refine start_ (n := 11) (S := fun w' => w'.cell? ⟨gb576, 0, none⟩ = some (.int .i64 a1_0) ∧ w'.cell? ⟨gb576, 1, none⟩ = some (.string a1_1) ∧ w'.cell? ⟨gb576, 2, none⟩ = some (.int .i64 a1_2) ∧ w'.cell? ⟨gb576, 3, none⟩ = some (.int .i64 a1_3) ∧ w'.cell? ⟨gb576, 4, none⟩ = some (.slice A1_4 l1_4.length c1_4)) (ds := []) #[false, false, false, false, false, false, false, false, false, false, false] (by kernel_rfl) rfl rfl ⟨(blk_cell BK576.out 0).trans rfl, (blk_cell BK576.out 1).trans rfl, (blk_cell BK576.out 2).trans rfl, (blk_cell BK576.out 3).trans rfl, (blk_cell BK576.out 4).trans rfl⟩ (fun hHeld => ?_); refine with_tabW clusterlockslaw08_FormulaResolves.tab1 clusterlockslaw08_FormulaResolves.bits1 (fun HT_ HW_ => ?_)
  generalize w7.drew = w8 at BK576 HB hHeld ⊢
  refine one_ (i := 0) (N := some 5) #[true, false, false, false, false, false, false, false, false, false, false] rfl rfl (one_of HT_.out (by kernel_rfl)) (by decide) (fun K hK => ?_)
  refine goes_ Try.func14 (by kernel_rfl) rfl #[] (by rfl) rfl rfl (by (try simp only [List.map_toArray, List.map_cons, List.map_nil]); first | done | rfl | (simp only [List.length_drop, List.length_take]; rfl)) ?_
  with_reducible refine (clusterlockslaw08_awake.calls k  true _ A3.out).mono ?_
  rintro e w9 ⟨rfl, hb⟩
  refine ⟨_, rfl, ?_⟩
  have n0_ := am (blk_below (zB BK576.out) hb)
  have n1_ := am (below_step (zL HB.out) hb)
  clear BK576 HB
  have BK576 := n0_
  have HB := n1_
  clear n0_ n1_
  (try clear hb)
  (try clear hb2)
  (try clear hk)
  (try clear hi)
  refine hK.out _ _ ⟨(blk_cell BK576.out 0).trans rfl, (blk_cell BK576.out 1).trans rfl, (blk_cell BK576.out 2).trans rfl, (blk_cell BK576.out 3).trans rfl, (blk_cell BK576.out 4).trans rfl⟩ (fun hHeld => ?_)
  clear hK K
  refine norm_ (a' := ?_) ?_ ?_
  rotate_left
  ·show Act.put _ (some 5) _ = _
   simp only [Act.put, List.setIfInBounds_toArray, List.set_cons_zero, List.set_cons_succ, i64_w, i32_w]
   rfl
  refine pure_ (i := 1) (N := some 6) (v := ?_) (a' := ?_) #[true, true, false, false, false, false, false, false, false, false, false] rfl rfl (any_of HT_.out (by kernel_rfl)) (fun _ _ _ h => h) (Or.inl ⟨by rfl, ?_⟩) ?_ ?_
  rotate_left
  ·intro w'
   go_simp
   with_reducible rfl
  rotate_left
  ·simp only [Act.put, List.setIfInBounds_toArray, List.set_cons_zero, List.set_cons_succ, i64_w, i32_w]
   rfl
  refine pure_ (i := 2) (N := some 7) (v := ?_) (a' := ?_) #[true, true, true, false, false, false, false, false, false, false, false] rfl rfl (any_of HT_.out (by kernel_rfl)) (fun _ _ _ h => h) (Or.inl ⟨by rfl, ?_⟩) ?_ ?_
  rotate_left
  ·intro w'
   go_simp
   with_reducible rfl
  rotate_left
  ·simp only [Act.put, List.setIfInBounds_toArray, List.set_cons_zero, List.set_cons_succ, i64_w, i32_w]
   rfl
  refine pure_ (i := 5) (N := some 10) (v := ?_) (a' := ?_) #[true, true, true, false, false, true, false, false, false, false, false] rfl rfl (any_of HT_.out (by kernel_rfl)) (fun _ _ _ h => h) (Or.inl ⟨by rfl, ?_⟩) ?_ ?_
  rotate_left
  ·intro w'
   go_simp
   with_reducible rfl
  rotate_left
  ·simp only [Act.put, List.setIfInBounds_toArray, List.set_cons_zero, List.set_cons_succ, i64_w, i32_w]
   rfl
  refine take_ (i := 3) (N := some 8) (v := ?_) (a' := ?_) #[true, true, true, true, false, true, false, false, false, false, false] rfl rfl (take_ofW HT_.out HW_.out (by kernel_rfl)) (fun _ _ _ h => h) (Or.inl ⟨by rfl, ?_⟩) hHeld ?_ ?_
  rotate_left
  ·rintro w' ⟨s0, s1, s2, s3, s4⟩
   go_simp
   with_reducible rfl
  rotate_left
  ·simp only [Act.put, List.setIfInBounds_toArray, List.set_cons_zero, List.set_cons_succ, i64_w, i32_w]
   rfl
  refine take_ (i := 6) (N := some 11) (v := ?_) (a' := ?_) #[true, true, true, true, false, true, true, false, false, false, false] rfl rfl (take_ofW HT_.out HW_.out (by kernel_rfl)) (fun _ _ _ h => h) (Or.inl ⟨by rfl, ?_⟩) hHeld ?_ ?_
  rotate_left
  ·rintro w' ⟨s0, s1, s2, s3, s4⟩
   go_simp
   with_reducible rfl
  rotate_left
  ·simp only [Act.put, List.setIfInBounds_toArray, List.set_cons_zero, List.set_cons_succ, i64_w, i32_w]
   rfl
  refine one_ (i := 4) (N := some 9) #[true, true, true, true, true, true, true, false, false, false, false] rfl rfl (one_of HT_.out (by kernel_rfl)) (by decide) (fun K hK => ?_)
  refine goes_ Try.func28 (by kernel_rfl) rfl #[.slice A0 l0.length c0, .agg #[.int .i64 a1_0, .string a1_1, .int .i64 a1_2, .int .i64 a1_3, .slice A1_4 l1_4.length c1_4]] (by rfl) rfl rfl (by (try simp only [List.map_toArray, List.map_cons, List.map_nil]); first | done | rfl | (simp only [List.length_drop, List.length_take]; rfl)) ?_
  with_reducible refine (formula_Resolve.calls k _ _ l0 a1_0 a1_1 a1_2 a1_3 _ _ l1_4 t578 _ ?side1 ?side2 ?side3 ?side4 A5.out).mono ?_
  (case side1 => exact zC (Kd.C_below HR0.out HB.out))
  (case side2 => exact HC0.out)
  (case side3 => exact zC (Kd.C_below HR1_4.out HB.out))
  (case side4 => exact HC1_4.out)
  rintro e w10 ⟨rfl, hb⟩
  refine ⟨_, rfl, ?_⟩
  have n0_ := am (blk_below (zB BK576.out) hb)
  have n1_ := am (below_step (zL HB.out) hb)
  clear BK576 HB
  have BK576 := n0_
  have HB := n1_
  clear n0_ n1_
  (try clear hb)
  (try clear hb2)
  (try clear hk)
  (try clear hi)
  refine hK.out _ _ ⟨(blk_cell BK576.out 0).trans rfl, (blk_cell BK576.out 1).trans rfl, (blk_cell BK576.out 2).trans rfl, (blk_cell BK576.out 3).trans rfl, (blk_cell BK576.out 4).trans rfl⟩ (fun hHeld => ?_)
  clear hK K
  refine norm_ (a' := ?_) ?_ ?_
  rotate_left
  ·show Act.put _ (some 9) _ = _
   simp only [Act.put, List.setIfInBounds_toArray, List.set_cons_zero, List.set_cons_succ, i64_w, i32_w]
   rfl
  refine one_ (i := 7) (N := some 12) #[true, true, true, true, true, true, true, true, false, false, false] rfl rfl (one_of HT_.out (by kernel_rfl)) (by decide) (fun K hK => ?_)
  refine goes_ Try.func29 (by kernel_rfl) rfl #[.slice A0 l0.length c0, .agg #[.int .i64 a1_0, .string a1_1, .int .i64 a1_2, .int .i64 a1_3, .slice A1_4 l1_4.length c1_4]] (by rfl) rfl rfl (by (try simp only [List.map_toArray, List.map_cons, List.map_nil]); first | done | rfl | (simp only [List.length_drop, List.length_take]; rfl)) ?_
  with_reducible refine (clusterlocksref08_Resolve.calls k _ _ l0 a1_0 a1_1 a1_2 a1_3 _ _ l1_4 t579 _ ?side1 ?side2 ?side3 ?side4 A6.out).mono ?_
  (case side1 => exact zC (Kd.C_below HR0.out HB.out))
  (case side2 => exact HC0.out)
  (case side3 => exact zC (Kd.C_below HR1_4.out HB.out))
  (case side4 => exact HC1_4.out)
  rintro e w11 ⟨rfl, hb⟩
  refine ⟨_, rfl, ?_⟩
  have n0_ := am (blk_below (zB BK576.out) hb)
  have n1_ := am (below_step (zL HB.out) hb)
  clear BK576 HB
  have BK576 := n0_
  have HB := n1_
  clear n0_ n1_
  (try clear hb)
  (try clear hb2)
  (try clear hk)
  (try clear hi)
  refine hK.out _ _ ⟨(blk_cell BK576.out 0).trans rfl, (blk_cell BK576.out 1).trans rfl, (blk_cell BK576.out 2).trans rfl, (blk_cell BK576.out 3).trans rfl, (blk_cell BK576.out 4).trans rfl⟩ (fun hHeld => ?_)
  clear hK K
  refine norm_ (a' := ?_) ?_ ?_
  rotate_left
  ·show Act.put _ (some 12) _ = _
   simp only [Act.put, List.setIfInBounds_toArray, List.set_cons_zero, List.set_cons_succ, i64_w, i32_w]
   rfl
  refine pure_ (i := 8) (N := some 13) (v := ?_) (a' := ?_) #[true, true, true, true, true, true, true, true, true, false, false] rfl rfl (any_of HT_.out (by kernel_rfl)) (fun _ _ _ h => h) (Or.inl ⟨by rfl, ?_⟩) ?_ ?_
  rotate_left
  ·intro w'
   go_simp
   with_reducible rfl
  rotate_left
  ·simp only [Act.put, List.setIfInBounds_toArray, List.set_cons_zero, List.set_cons_succ, i64_w, i32_w]
   rfl
  refine pure_ (i := 9) (N := some 14) (v := ?_) (a' := ?_) #[true, true, true, true, true, true, true, true, true, true, false] rfl rfl (any_of HT_.out (by kernel_rfl)) (fun _ _ _ h => h) (Or.inl ⟨by rfl, ?_⟩) ?_ ?_
  rotate_left
  ·intro w'
   go_simp
   with_reducible rfl
  rotate_left
  ·simp only [Act.put, List.setIfInBounds_toArray, List.set_cons_zero, List.set_cons_succ, i64_w, i32_w]
   rfl
  refine pure_ (i := 10) (N := some 4) (v := ?_) (a' := ?_) #[true, true, true, true, true, true, true, true, true, true, true] rfl rfl (any_of HT_.out (by kernel_rfl)) (fun _ _ _ h => h) (Or.inl ⟨by rfl, ?_⟩) ?_ ?_
  rotate_left
  ·intro w'
   go_simp
   with_reducible rfl
  rotate_left
  ·simp only [Act.put, List.setIfInBounds_toArray, List.set_cons_zero, List.set_cons_succ, i64_w, i32_w]
   rfl
  refine done_ (done_of HT_.out (by kernel_rfl)) ?_
  try go_wp2
  go_ret
  exact ⟨by first | rfl | (simp [errW_none, errW_some] <;> rfl) | (simp [*, errW_none, errW_some] <;> rfl), by repeat (first | (with_reducible first | exact HB.out | apply ba | apply bd | apply be | refine below_set ?_ GE576.out) | exact HB.out)⟩
 ·replace c4 := Bool.eq_false_iff.mpr c4
  subst c4
  have H1 : (none) = some r := by rw [if_neg (show ¬ (false = true) by decide)] at H; exact H
  clear H
  have H := H1
  clear H1
  exact absurd H (by simp)

end Go.Proofs.Ytefbcebpokoinaa.Y

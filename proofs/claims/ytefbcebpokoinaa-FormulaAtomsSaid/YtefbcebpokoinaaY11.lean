-- Laid by a program of this session's (xprint.py, which runs the kit's print.py with patches of its own). Lean checks it.
import Derived.Test.YtefbcebpokoinaaY0
import Derived.Test.YtefbcebpokoinaaY1
import Derived.Test.YtefbcebpokoinaaY5
import Derived.Test.YtefbcebpokoinaaY8
import Derived.Test.YtefbcebpokoinaaY10
namespace Go.Proofs.Ytefbcebpokoinaa.Y
open Go.RowKit Go.Proofs.YtefbcebpokoinaaW.PrintWords Go.Proofs.YtefbcebpokoinaaW.PrintLast Go.Proofs.YtefbcebpokoinaaW.PrintMore
attribute [local go_sem] max2_int min2_int max_two min_two max_three min_three max_four min_four   -- for this text's walks alone
set_option linter.unusedVariables false
set_option linter.unusedSimpArgs false

attribute [local go_sem high] eqA25
/-! ### clusterlockslaw08_FormulaAtoms: function 3 -/
mutual
def clusterlockslaw08_FormulaAtoms.j0 : Nat → List (S25) → List (S25) → Bool → Option (Bool)
 | 0, _, _, _ => none
 | k + 1, x3, x4, x18 => if x18 = true then (none) else (clusterlockslaw08_FormulaAtoms.l0 k x3 x4 0)
def clusterlockslaw08_FormulaAtoms.l0 : Nat → List (S25) → List (S25) → Int → Option (Bool)
 | 0, _, _, _ => none
 | k + 1, x3, x4, x5 => if x5 < (x3.length : Int) then (if 0 ≤ x5 then (if x5 < (x4.length : Int) then (if (!((((rd_T25 x3 x5).f0).toList) == (((rd_T25 x4 x5).f0).toList)) || ((!(((rd_T25 x3 x5).f1.f0) == ((rd_T25 x4 x5).f1.f0)) || (!(((rd_T25 x3 x5).f1.f1) == ((rd_T25 x4 x5).f1.f1)))))) = true then (none) else (clusterlockslaw08_FormulaAtoms.l0 k x3 x4 (wrap64 (x5 + 1)))) else (none)) else (none)) else (some true)
end
def clusterlockslaw08_FormulaAtoms.f (k : Nat) (a0_0 : Int) (a0_1 : ByteArray) (a0_2 : Int) (a0_3 : Int) (l0_4 : List (S28)) : Option (Bool) := (formula_Atoms.f k a0_0 a0_1 a0_2 a0_3 l0_4).bind fun t275 => ((clusterlocksref08_Atoms.f k a0_0 a0_1 a0_2 a0_3 l0_4).bind fun t278 => ((clusterlockslaw08_awake.f k).bind fun t281 => (if t281 = true then (clusterlockslaw08_FormulaAtoms.j0 k t275 t278 ((t275.length : Int) != (t278.length : Int))) else (clusterlockslaw08_FormulaAtoms.j0 k t275 t278 true))))
theorem clusterlockslaw08_FormulaAtoms.mono_l : ∀ k, (∀ y0 y1 y2, LeO (clusterlockslaw08_FormulaAtoms.j0 k y0 y1 y2) (clusterlockslaw08_FormulaAtoms.j0 (k + 1) y0 y1 y2)) ∧ (∀ y0 y1 y2, LeO (clusterlockslaw08_FormulaAtoms.l0 k y0 y1 y2) (clusterlockslaw08_FormulaAtoms.l0 (k + 1) y0 y1 y2))
 | 0 => ⟨fun _ _ _ r h => by simp [clusterlockslaw08_FormulaAtoms.j0] at h, fun _ _ _ r h => by simp [clusterlockslaw08_FormulaAtoms.l0] at h⟩
 | k + 1 => by
  obtain ⟨ih0, ih1⟩ := clusterlockslaw08_FormulaAtoms.mono_l k
  refine ⟨?_, ?_⟩
  ·intro y0 y1 y2
   unfold clusterlockslaw08_FormulaAtoms.j0
   repeat' first
   | (with_reducible exact ih0 _ _ _)
   | (with_reducible exact ih1 _ _ _)
   | (with_reducible exact clusterlockslaw08_awake.mono _)
   | (with_reducible exact clusterlocksref08_Atoms.mono _ _ _ _ _ _)
   | (with_reducible exact formula_Atoms.mono _ _ _ _ _ _)
   | (with_reducible exact LeO.refl _)
   | (with_reducible exact LeO.none _)
   | (with_reducible refine LeO.ite ?_ ?_)
   | (with_reducible refine LeO.bind ?_ (fun _ => ?_))
   | exact ih0 _ _ _
   | exact ih1 _ _ _
   | exact clusterlockslaw08_awake.mono _
   | exact clusterlocksref08_Atoms.mono _ _ _ _ _ _
   | exact formula_Atoms.mono _ _ _ _ _ _
   | exact LeO.none _
   | refine LeO.ite ?_ ?_
   | refine LeO.bind ?_ (fun _ => ?_)
  ·intro y0 y1 y2
   unfold clusterlockslaw08_FormulaAtoms.l0
   repeat' first
   | (with_reducible exact ih0 _ _ _)
   | (with_reducible exact ih1 _ _ _)
   | (with_reducible exact clusterlockslaw08_awake.mono _)
   | (with_reducible exact clusterlocksref08_Atoms.mono _ _ _ _ _ _)
   | (with_reducible exact formula_Atoms.mono _ _ _ _ _ _)
   | (with_reducible exact LeO.refl _)
   | (with_reducible exact LeO.none _)
   | (with_reducible refine LeO.ite ?_ ?_)
   | (with_reducible refine LeO.bind ?_ (fun _ => ?_))
   | exact ih0 _ _ _
   | exact ih1 _ _ _
   | exact clusterlockslaw08_awake.mono _
   | exact clusterlocksref08_Atoms.mono _ _ _ _ _ _
   | exact formula_Atoms.mono _ _ _ _ _ _
   | exact LeO.none _
   | refine LeO.ite ?_ ?_
   | refine LeO.bind ?_ (fun _ => ?_)
theorem clusterlockslaw08_FormulaAtoms.mono : ∀ a0 a1 a2 a3 a4 k, LeO (clusterlockslaw08_FormulaAtoms.f k a0 a1 a2 a3 a4) (clusterlockslaw08_FormulaAtoms.f (k + 1) a0 a1 a2 a3 a4) := by
 intro a0 a1 a2 a3 a4 k
 obtain ⟨ih0, ih1⟩ := clusterlockslaw08_FormulaAtoms.mono_l k
 unfold clusterlockslaw08_FormulaAtoms.f
 repeat' first
   | (with_reducible exact ih0 _ _ _)
   | (with_reducible exact ih1 _ _ _)
   | (with_reducible exact clusterlockslaw08_awake.mono _)
   | (with_reducible exact clusterlocksref08_Atoms.mono _ _ _ _ _ _)
   | (with_reducible exact formula_Atoms.mono _ _ _ _ _ _)
   | (with_reducible exact LeO.refl _)
   | (with_reducible exact LeO.none _)
   | (with_reducible refine LeO.ite ?_ ?_)
   | (with_reducible refine LeO.bind ?_ (fun _ => ?_))
   | exact ih0 _ _ _
   | exact ih1 _ _ _
   | exact clusterlockslaw08_awake.mono _
   | exact clusterlocksref08_Atoms.mono _ _ _ _ _ _
   | exact formula_Atoms.mono _ _ _ _ _ _
   | exact LeO.none _
   | refine LeO.ite ?_ ?_
   | refine LeO.bind ?_ (fun _ => ?_)
def clusterlockslaw08_FormulaAtoms.T7 : Bool × List (List Nat × List Nat) := (true, [([], []), ([], []), ([0, 1], [0, 1]), ([2], [2]), ([], []), ([], []), ([4, 5], [4, 5]), ([6], [6]), ([3, 7], [3, 7])])
def clusterlockslaw08_FormulaAtoms.B7 : List Nat := [0, 0, 3, 7, 0, 0, 48, 112, 255]
theorem clusterlockslaw08_FormulaAtoms.tab7 : rtab .any (opsOf Try.f3 7) = clusterlockslaw08_FormulaAtoms.T7 := by kernel_rfl
theorem clusterlockslaw08_FormulaAtoms.bits7 : waitsOk clusterlockslaw08_FormulaAtoms.T7.2 clusterlockslaw08_FormulaAtoms.B7 = true := by kernel_rfl
set_option maxHeartbeats 8000000 in
set_option maxRecDepth 100000 in
theorem clusterlockslaw08_FormulaAtoms.calls (k : Nat) (a0_0 : Int) (a0_1 : ByteArray) (a0_2 : Int) (a0_3 : Int) (A0_4 : Option Addr) (c0_4 : Nat) (l0_4 : List (S28)) (r : Bool) (w : World) (hr0_4 : Kd.C k28 w A0_4 l0_4.length l0_4) (hc0_4 : l0_4.length ≤ c0_4) (h : clusterlockslaw08_FormulaAtoms.f k a0_0 a0_1 a0_2 a0_3 l0_4 = some r) :
  Calls Try.prog 3 #[.agg #[.int .i64 a0_0, .string a0_1, .int .i64 a0_2, .int .i64 a0_3, .slice A0_4 l0_4.length c0_4]] w fun e w' => e = .returned (.bool r) ∧ Below w.heap.size w w' := by
 have hu28 := Try.underlying28
 have hu25 := Try.underlying25
 have HR0_4 := Aside0.mk hr0_4
 have HC0_4 := Aside0.mk hc0_4
 clear hr0_4 hc0_4
 have HB := am (Below.refl w.heap.size w)
 have H : ((formula_Atoms.f k a0_0 a0_1 a0_2 a0_3 l0_4).bind fun t275 => ((clusterlocksref08_Atoms.f k a0_0 a0_1 a0_2 a0_3 l0_4).bind fun t278 => ((clusterlockslaw08_awake.f k).bind fun t281 => (if t281 = true then (clusterlockslaw08_FormulaAtoms.j0 k t275 t278 ((t275.length : Int) != (t278.length : Int))) else (clusterlockslaw08_FormulaAtoms.j0 k t275 t278 true))))) = some r := h
 clear h
 replace H := Option.bind_eq_some_iff.mp H
 obtain ⟨t275, A20, H⟩ := H
 replace H : ((clusterlocksref08_Atoms.f k a0_0 a0_1 a0_2 a0_3 l0_4).bind fun t278 => ((clusterlockslaw08_awake.f k).bind fun t281 => (if t281 = true then (clusterlockslaw08_FormulaAtoms.j0 k t275 t278 ((t275.length : Int) != (t278.length : Int))) else (clusterlockslaw08_FormulaAtoms.j0 k t275 t278 true)))) = some r := H
 have A2 := Aside0.mk A20
 clear A20
 replace H := Option.bind_eq_some_iff.mp H
 obtain ⟨t278, A30, H⟩ := H
 replace H : ((clusterlockslaw08_awake.f k).bind fun t281 => (if t281 = true then (clusterlockslaw08_FormulaAtoms.j0 k t275 t278 ((t275.length : Int) != (t278.length : Int))) else (clusterlockslaw08_FormulaAtoms.j0 k t275 t278 true))) = some r := H
 have A3 := Aside0.mk A30
 clear A30
 have HC4 := Aside0.mk H
 clear H
 go_enter Try.func3, Try.ntmps3
 try go_wp2_with (first | ((with_reducible refine gate_dst (N := 1) rfl ?_); (try (refine gate_guard (by rfl) ?_; dsimp only)); refine box_event ?hg (N := 1) ?hd (cs := #[.int .i64 a0_0, .string a0_1, .int .i64 a0_2, .int .i64 a0_3, .slice A0_4 l0_4.length c0_4]) (t := 28) ?hr ?_; (case hd => rfl); (case hg => rfl); (case hr => first | (go_simp; done) | (go_simp; rfl)); intro gb274 hg w5 hbox hb; have n0_ := am (below_step (zL HB.out) hb); have n1_ := am (hbox); have n2_ := am (zS hg HB.out); have n3_ := am (zS hg HB.out); clear HB; have HB := n0_; have BK274 := n1_; have GW274 := n2_; have GE274 := n3_; clear n0_ n1_ n2_ n3_; clear hb hbox hg))
 have n0_ := am (blk_drew BK274.out)
 have n1_ := am (below_drew1 HB.out)
 clear BK274 HB
 have BK274 := n0_
 have HB := n1_
 clear n0_ n1_
 refine start_ (n := 6) (S := fun w' => w'.cell? ⟨gb274, 0, none⟩ = some (.int .i64 a0_0) ∧ w'.cell? ⟨gb274, 1, none⟩ = some (.string a0_1) ∧ w'.cell? ⟨gb274, 2, none⟩ = some (.int .i64 a0_2) ∧ w'.cell? ⟨gb274, 3, none⟩ = some (.int .i64 a0_3) ∧ w'.cell? ⟨gb274, 4, none⟩ = some (.slice A0_4 l0_4.length c0_4)) (ds := []) #[false, false, false, false, false, false] (by kernel_rfl) rfl rfl ⟨(blk_cell BK274.out 0).trans rfl, (blk_cell BK274.out 1).trans rfl, (blk_cell BK274.out 2).trans rfl, (blk_cell BK274.out 3).trans rfl, (blk_cell BK274.out 4).trans rfl⟩ (fun hHeld => ?_)
 generalize w5.drew = w6 at BK274 HB hHeld ⊢
 refine take_ (i := 0) (N := some 6) (v := ?_) (a' := ?_) #[true, false, false, false, false, false] rfl rfl (by kernel_rfl) (fun _ _ _ h => h) (Or.inl ⟨by rfl, ?_⟩) hHeld ?_ ?_
 rotate_left
 ·rintro w' ⟨s0, s1, s2, s3, s4⟩
  go_simp
  with_reducible rfl
 rotate_left
 ·simp only [Act.put, List.setIfInBounds_toArray, List.set_cons_zero, List.set_cons_succ, i64_w, i32_w]
  rfl
 refine take_ (i := 2) (N := some 8) (v := ?_) (a' := ?_) #[true, false, true, false, false, false] rfl rfl (by kernel_rfl) (fun _ _ _ h => h) (Or.inl ⟨by rfl, ?_⟩) hHeld ?_ ?_
 rotate_left
 ·rintro w' ⟨s0, s1, s2, s3, s4⟩
  go_simp
  with_reducible rfl
 rotate_left
 ·simp only [Act.put, List.setIfInBounds_toArray, List.set_cons_zero, List.set_cons_succ, i64_w, i32_w]
  rfl
 refine one_ (i := 1) (N := some 7) #[true, true, true, false, false, false] rfl rfl (by kernel_rfl) (by decide) (fun K hK => ?_)
 refine goes_ Try.func12 (by kernel_rfl) rfl #[.agg #[.int .i64 a0_0, .string a0_1, .int .i64 a0_2, .int .i64 a0_3, .slice A0_4 l0_4.length c0_4]] (by rfl) rfl rfl (by (try simp only [List.map_toArray, List.map_cons, List.map_nil]); first | done | rfl | (simp only [List.length_drop, List.length_take]; rfl)) ?_
 with_reducible refine (formula_Atoms.calls k a0_0 a0_1 a0_2 a0_3 _ _ l0_4 t275 _ ?side1 ?side2 A2.out).mono ?_
 (case side1 => exact zC (Kd.C_below HR0_4.out HB.out))
 (case side2 => exact HC0_4.out)
 rintro e w7 ⟨v276, rfl, ho0, hb⟩
 refine ⟨_, rfl, ?_⟩
 have n0_ := am (Kd.R_lower ho0 (below_size (zL HB.out)))
 have n1_ := am (blk_below (zB BK274.out) hb)
 have n2_ := am (below_step (zL HB.out) hb)
 clear BK274 HB
 have HO277 := n0_
 have BK274 := n1_
 have HB := n2_
 clear n0_ n1_ n2_
 (try clear hb)
 (try clear hb2)
 (try clear hk)
 (try clear hi)
 (try clear ho0)
 refine hK.out _ _ ⟨(blk_cell BK274.out 0).trans rfl, (blk_cell BK274.out 1).trans rfl, (blk_cell BK274.out 2).trans rfl, (blk_cell BK274.out 3).trans rfl, (blk_cell BK274.out 4).trans rfl⟩ (fun hHeld => ?_)
 clear hK K
 refine norm_ (a' := ?_) ?_ ?_
 rotate_left
 ·show Act.put _ (some 7) _ = _
  simp only [Act.put, List.setIfInBounds_toArray, List.set_cons_zero, List.set_cons_succ, i64_w, i32_w]
  rfl
 refine one_ (i := 3) (N := some 9) #[true, true, true, true, false, false] rfl rfl (by kernel_rfl) (by decide) (fun K hK => ?_)
 refine goes_ Try.func13 (by kernel_rfl) rfl #[.agg #[.int .i64 a0_0, .string a0_1, .int .i64 a0_2, .int .i64 a0_3, .slice A0_4 l0_4.length c0_4]] (by rfl) rfl rfl (by (try simp only [List.map_toArray, List.map_cons, List.map_nil]); first | done | rfl | (simp only [List.length_drop, List.length_take]; rfl)) ?_
 with_reducible refine (clusterlocksref08_Atoms.calls k a0_0 a0_1 a0_2 a0_3 _ _ l0_4 t278 _ ?side1 ?side2 A3.out).mono ?_
 (case side1 => exact zC (Kd.C_below HR0_4.out HB.out))
 (case side2 => exact HC0_4.out)
 rintro e w8 ⟨v279, rfl, ho0, hb⟩
 refine ⟨_, rfl, ?_⟩
 have n0_ := am (Kd.R_elder' (zR HO277.out) (Kd.R_base ho0) hb)
 have n1_ := am (Kd.R_lower (Kd.R_new' ho0 (Kd.R_lt (zR HO277.out))) (below_size (zL HB.out)))
 have n2_ := am (blk_below (zB BK274.out) hb)
 have n3_ := am (below_step (zL HB.out) hb)
 clear HO277 BK274 HB
 have HO277 := n0_
 have HO280 := n1_
 have BK274 := n2_
 have HB := n3_
 clear n0_ n1_ n2_ n3_
 (try clear hb)
 (try clear hb2)
 (try clear hk)
 (try clear hi)
 (try clear ho0)
 refine hK.out _ _ ⟨(blk_cell BK274.out 0).trans rfl, (blk_cell BK274.out 1).trans rfl, (blk_cell BK274.out 2).trans rfl, (blk_cell BK274.out 3).trans rfl, (blk_cell BK274.out 4).trans rfl⟩ (fun hHeld => ?_)
 clear hK K
 refine norm_ (a' := ?_) ?_ ?_
 rotate_left
 ·show Act.put _ (some 9) _ = _
  simp only [Act.put, List.setIfInBounds_toArray, List.set_cons_zero, List.set_cons_succ, i64_w, i32_w]
  rfl
 refine pure_ (i := 4) (N := some 3) (v := ?_) (a' := ?_) #[true, true, true, true, true, false] rfl rfl (by kernel_rfl) (fun _ _ _ h => h) (Or.inl ⟨by rfl, ?_⟩) ?_ ?_
 rotate_left
 ·intro w'
  go_simp
  with_reducible rfl
 rotate_left
 ·simp only [Act.put, List.setIfInBounds_toArray, List.set_cons_zero, List.set_cons_succ, i64_w, i32_w]
  rfl
 refine pure_ (i := 5) (N := some 4) (v := ?_) (a' := ?_) #[true, true, true, true, true, true] rfl rfl (by kernel_rfl) (fun _ _ _ h => h) (Or.inl ⟨by rfl, ?_⟩) ?_ ?_
 rotate_left
 ·intro w'
  go_simp
  with_reducible rfl
 rotate_left
 ·simp only [Act.put, List.setIfInBounds_toArray, List.set_cons_zero, List.set_cons_succ, i64_w, i32_w]
  rfl
 refine done_ (by kernel_rfl) ?_
 go_upto_region 2 with (fail)
 go_cut [18] (fun v18 wc => ∃ (kq : Nat) (x18_3 : Bool), v18 = .bool x18_3 ∧ Aside0 (clusterlockslaw08_FormulaAtoms.j0 kq t275 t278 x18_3 = some r) ∧ Aside0 (kq ≤ k) ∧ Aside0 (Kd.R k25 25 wc w.heap.size (fun k_ => some k_ ≠ (v279 : Value).ownBlock) v276 t275) ∧ Aside0 (Kd.R k25 25 wc w.heap.size (fun k_ => some k_ ≠ (v276 : Value).ownBlock) v279 t278) ∧ Aside0 (wc.heap[gb274]? = some (.cells #[.int .i64 a0_0, .string a0_1, .int .i64 a0_2, .int .i64 a0_3, (.slice A0_4 l0_4.length c0_4)] 28 (0, 0))) ∧ Aside0 (Below w.heap.size w wc))
 case first =>
  have H := HC4.out
  clear HC4
  replace H := Option.bind_eq_some_iff.mp H
  obtain ⟨t281, A90, H⟩ := H
  replace H : (if t281 = true then (clusterlockslaw08_FormulaAtoms.j0 k t275 t278 ((t275.length : Int) != (t278.length : Int))) else (clusterlockslaw08_FormulaAtoms.j0 k t275 t278 true)) = some r := H
  have A9 := Aside0.mk A90
  clear A90
  by_cases c10 : t281 = true
  ·subst c10
   have H1 : (clusterlockslaw08_FormulaAtoms.j0 k t275 t278 ((t275.length : Int) != (t278.length : Int))) = some r := by rw [if_pos rfl] at H; exact H
   clear H
   have H := H1
   clear H1
   have H' := Aside0.mk H
   clear H
   go_wp2_with (first | ((with_reducible refine gate_callee (f := 14) rfl ?_); refine goesL_ (some 10) rfl rfl Try.func14 (by kernel_rfl) rfl #[] rfl (by (try simp only [List.map_toArray, List.map_cons, List.map_nil]); first | done | rfl | (simp only [List.length_drop, List.length_take]; rfl)) ?_; (with_reducible refine (clusterlockslaw08_awake.calls k  true _ A9.out).mono ?_); rintro e w11 ⟨rfl, hb⟩; refine ⟨_, rfl, ?_⟩; have n0_ := am (Kd.R_below (zR HO277.out) hb); have n1_ := am (Kd.R_below (zR HO280.out) hb); have n2_ := am (blk_below (zB BK274.out) hb); have n3_ := am (below_step (zL HB.out) hb); clear HO277 HO280 BK274 HB; have HO277 := n0_; have HO280 := n1_; have BK274 := n2_; have HB := n3_; clear n0_ n1_ n2_ n3_; (try clear hb); (try clear hb2); (try clear hk); (try clear hi); obtain ⟨Ao12, co12, eo12⟩ := Kd.R_slice HO277.out; subst eo12; obtain ⟨Ao13, co13, eo13⟩ := Kd.R_slice HO280.out; subst eo13))
   go_meet
   case rel => exact ⟨_, (((t275.length : Int) != (t278.length : Int))), (by first | rfl | (simp; done) | (simp [*]; done)), H', ⟨by first | omega | exact Nat.le_refl _⟩, ⟨by exact zR <| Kd.R_mono HO277.out (fun _ hk => hk.2)⟩, ⟨by exact zR <| Kd.R_mono HO280.out (fun _ hk => hk.2)⟩, ⟨by exact zB <| BK274.out⟩, ⟨by repeat (first | (with_reducible first | exact HB.out | apply ba | apply bd | apply be | refine below_set ?_ GE274.out) | exact HB.out)⟩⟩
  ·replace c10 := Bool.eq_false_iff.mpr c10
   subst c10
   have H1 : (clusterlockslaw08_FormulaAtoms.j0 k t275 t278 true) = some r := by rw [if_neg (show ¬ (false = true) by decide)] at H; exact H
   clear H
   have H := H1
   clear H1
   have H' := Aside0.mk H
   clear H
   go_wp2_with (first | ((with_reducible refine gate_callee (f := 14) rfl ?_); refine goesL_ (some 10) rfl rfl Try.func14 (by kernel_rfl) rfl #[] rfl (by (try simp only [List.map_toArray, List.map_cons, List.map_nil]); first | done | rfl | (simp only [List.length_drop, List.length_take]; rfl)) ?_; (with_reducible refine (clusterlockslaw08_awake.calls k  false _ A9.out).mono ?_); rintro e w14 ⟨rfl, hb⟩; refine ⟨_, rfl, ?_⟩; have n0_ := am (Kd.R_below (zR HO277.out) hb); have n1_ := am (Kd.R_below (zR HO280.out) hb); have n2_ := am (blk_below (zB BK274.out) hb); have n3_ := am (below_step (zL HB.out) hb); clear HO277 HO280 BK274 HB; have HO277 := n0_; have HO280 := n1_; have BK274 := n2_; have HB := n3_; clear n0_ n1_ n2_ n3_; (try clear hb); (try clear hb2); (try clear hk); (try clear hi)))
   go_meet
   case rel => exact ⟨_, (true), (by first | rfl | (simp; done) | (simp [*]; done)), H', ⟨by first | omega | exact Nat.le_refl _⟩, ⟨by exact zR <| Kd.R_mono HO277.out (fun _ hk => hk.2)⟩, ⟨by exact zR <| Kd.R_mono HO280.out (fun _ hk => hk.2)⟩, ⟨by exact zB <| BK274.out⟩, ⟨by repeat (first | (with_reducible first | exact HB.out | apply ba | apply bd | apply be | refine below_set ?_ GE274.out) | exact HB.out)⟩⟩
 case rest =>
  clear HC4
  try clear c1
  try clear p2
  try clear c3
  try clear c10
  try clear c12
  try clear c13
  try clear c14
  obtain ⟨kq, x18_3, rfl, HA, HJ3, HO_3, HO_4, BK274, HB⟩ := hcut
  cases kq with
  | zero => exact absurd HA.out (by simp [clusterlockslaw08_FormulaAtoms.j0])
  | succ kj3 =>
   have H := HA.out
   clear HA
   simp only [clusterlockslaw08_FormulaAtoms.j0] at H
   by_cases c15 : x18_3 = true
   ·subst c15
    have H1 : (none) = some r := by rw [if_pos rfl] at H; exact H
    clear H
    have H := H1
    clear H1
    exact absurd H (by simp)
   ·replace c15 := Bool.eq_false_iff.mpr c15
    subst c15
    have H1 : (clusterlockslaw08_FormulaAtoms.l0 kj3 t275 t278 0) = some r := by rw [if_neg (show ¬ (false = true) by decide)] at H; exact H
    clear H
    have H := H1
    clear H1
    have H' := Aside0.mk H
    clear H
    go_wp2
    go_loopg [5] kj3 (fun kq v5 w' => ∃ (x5_2 : Int), v5 = .int .i64 x5_2 ∧ Aside0 (clusterlockslaw08_FormulaAtoms.l0 kq t275 t278 x5_2 = some r) ∧ Aside0 (kq ≤ kj3) ∧ Aside0 (Kd.R k25 25 w' w.heap.size (fun k_ => some k_ ≠ (v279 : Value).ownBlock) v276 t275) ∧ Aside0 (Kd.R k25 25 w' w.heap.size (fun k_ => some k_ ≠ (v276 : Value).ownBlock) v279 t278) ∧ Aside0 (w'.heap[gb274]? = some (.cells #[.int .i64 a0_0, .string a0_1, .int .i64 a0_2, .int .i64 a0_3, (.slice A0_4 l0_4.length c0_4)] 28 (0, 0))) ∧ Aside0 (Below w.heap.size w w'))
    case atStart => exact ⟨(0), (by first | rfl | (simp; done) | (simp [*]; done)), H', ⟨Nat.le_refl _⟩, ⟨by exact zR HO_3.out⟩, ⟨by exact zR HO_4.out⟩, ⟨by exact zB <| BK274.out⟩, ⟨by repeat (first | (with_reducible first | exact HB.out | apply ba | apply bd | apply be | refine below_set ?_ GE274.out) | exact HB.out)⟩⟩
    case round =>
     clear H'
     try clear c1
     try clear p2
     try clear c3
     try clear c10
     try clear c12
     try clear c13
     try clear c14
     try clear c15
     try clear p2
     obtain ⟨x5_2, rfl, HA, HK2, HO_3, HO_4, BK274, HB⟩ := hrel
     cases gk with
     | zero => exact absurd HA.out (by simp [clusterlockslaw08_FormulaAtoms.l0])
     | succ k2 =>
      have H := HA.out
      clear HA
      simp only [clusterlockslaw08_FormulaAtoms.l0] at H
      by_cases c16 : x5_2 < (t275.length : Int)
      ·rw [if_pos c16] at H
       have c16b0 : decide (x5_2 < (t275.length : Int)) = true := decide_eq_true c16
       clear c16
       by_cases c17 : 0 ≤ x5_2
       ·rw [if_pos c17] at H
        have c17b0 : decide (0 ≤ x5_2) = true := decide_eq_true c17
        clear c17
        by_cases c18 : x5_2 < (t278.length : Int)
        ·rw [if_pos c18] at H
         have c18b0 : decide (x5_2 < (t278.length : Int)) = true := decide_eq_true c18
         clear c18
         by_cases c19 : (!((((rd_T25 t275 x5_2).f0).toList) == (((rd_T25 t278 x5_2).f0).toList)) || ((!(((rd_T25 t275 x5_2).f1.f0) == ((rd_T25 t278 x5_2).f1.f0)) || (!(((rd_T25 t275 x5_2).f1.f1) == ((rd_T25 t278 x5_2).f1.f1)))))) = true
         ·rw [if_pos c19] at H
          exact absurd H (by simp)
         ·rw [if_neg c19] at H
          have c19b0 : (!((((rd_T25 t275 x5_2).f0).toList) == (((rd_T25 t278 x5_2).f0).toList)) || ((!(((rd_T25 t275 x5_2).f1.f0) == ((rd_T25 t278 x5_2).f1.f0)) || (!(((rd_T25 t275 x5_2).f1.f1) == ((rd_T25 t278 x5_2).f1.f1)))))) = false := by simpa using c19
          clear c19
          have H' := Aside0.mk H
          clear H
          obtain ⟨Ao20, co20, eo20⟩ := Kd.R_slice HO_3.out
          subst eo20
          try go_wp2
          have n0_ := am (Kd.R_drew HO_3.out)
          have n1_ := am (Kd.R_drew HO_4.out)
          have n2_ := am (blk_drew BK274.out)
          have n3_ := am (below_drew1 HB.out)
          clear HO_3 HO_4 BK274 HB
          have HO_3 := n0_
          have HO_4 := n1_
          have BK274 := n2_
          have HB := n3_
          clear n0_ n1_ n2_ n3_
          have p282 : 0 ≤ (x5_2 : Int) := of_decide_eq_true (by first | (with_reducible assumption) | assumption)
          have q282 : x5_2 < (t275.length : Int) := of_decide_eq_true (by first | (with_reducible assumption) | assumption)
          obtain ⟨ad282, e282, hx282_0, hx282_1, hx282_2⟩ := at_T25 (Kd.R_reads' HO_3.out).2.2 x5_2 p282 q282
          cases e282
          replace p282 := eq_true p282
          replace q282 := eq_true q282
          obtain ⟨Ao22, co22, eo22⟩ := Kd.R_slice HO_4.out
          (first | subst eo22 | (injection eo22 with f1_ f2_ f3_; have f4_ := f1_.symm; have f5_ := f3_.symm; clear f1_ f2_ f3_; subst f4_; subst f5_))
          have p283 : 0 ≤ (x5_2 : Int) := of_decide_eq_true (by first | (with_reducible assumption) | assumption)
          have q283 : x5_2 < (t278.length : Int) := of_decide_eq_true (by first | (with_reducible assumption) | assumption)
          obtain ⟨ad283, e283, hx283_0, hx283_1, hx283_2⟩ := at_T25 (Kd.R_reads' HO_4.out).2.2 x5_2 p283 q283
          cases e283
          replace p283 := eq_true p283
          replace q283 := eq_true q283
          refine start_ (n := 9) (S := fun w' => w'.cell? (ad282.add ((x5_2).toNat * 3)) = some (.string ((rd_T25 t275 x5_2).f0)) ∧ w'.cell? ⟨(ad282.add ((x5_2).toNat * 3)).block, (ad282.add ((x5_2).toNat * 3)).off + 1, none⟩ = some (.int .i64 ((rd_T25 t275 x5_2).f1.f0)) ∧ w'.cell? ⟨(ad282.add ((x5_2).toNat * 3)).block, (ad282.add ((x5_2).toNat * 3)).off + 2, none⟩ = some (.int .i64 ((rd_T25 t275 x5_2).f1.f1)) ∧ w'.cell? (ad283.add ((x5_2).toNat * 3)) = some (.string ((rd_T25 t278 x5_2).f0)) ∧ w'.cell? ⟨(ad283.add ((x5_2).toNat * 3)).block, (ad283.add ((x5_2).toNat * 3)).off + 1, none⟩ = some (.int .i64 ((rd_T25 t278 x5_2).f1.f0)) ∧ w'.cell? ⟨(ad283.add ((x5_2).toNat * 3)).block, (ad283.add ((x5_2).toNat * 3)).off + 2, none⟩ = some (.int .i64 ((rd_T25 t278 x5_2).f1.f1))) (ds := []) #[false, false, false, false, false, false, false, false, false] (by kernel_rfl) rfl rfl ⟨hx282_0, hx282_1, hx282_2, hx283_0, hx283_1, hx283_2⟩ (fun hHeld => ?_); refine with_tabW clusterlockslaw08_FormulaAtoms.tab7 clusterlockslaw08_FormulaAtoms.bits7 (fun HT_ HW_ => ?_)
          generalize wr.drew = w21 at HO_3 HO_4 BK274 HB hx282_0 hx282_1 hx282_2 hx283_0 hx283_1 hx283_2 hHeld ⊢
          refine pure_ (i := 0) (N := some 25) (v := ?_) (a' := ?_) #[true, false, false, false, false, false, false, false, false] rfl rfl (any_of HT_.out (by kernel_rfl)) (fun _ _ _ h => h) (Or.inl ⟨by rfl, ?_⟩) ?_ ?_
          rotate_left
          ·intro w'
           go_simp
           with_reducible rfl
          rotate_left
          ·simp only [Act.put, List.setIfInBounds_toArray, List.set_cons_zero, List.set_cons_succ, i64_w, i32_w]
           rfl
          refine pure_ (i := 1) (N := some 26) (v := ?_) (a' := ?_) #[true, true, false, false, false, false, false, false, false] rfl rfl (any_of HT_.out (by kernel_rfl)) (fun _ _ _ h => h) (Or.inl ⟨by rfl, ?_⟩) ?_ ?_
          rotate_left
          ·intro w'
           go_simp
           with_reducible rfl
          rotate_left
          ·simp only [Act.put, List.setIfInBounds_toArray, List.set_cons_zero, List.set_cons_succ, i64_w, i32_w]
           rfl
          refine pure_ (i := 2) (N := some 27) (v := ?_) (a' := ?_) #[true, true, true, false, false, false, false, false, false] rfl rfl (any_of HT_.out (by kernel_rfl)) (fun _ _ _ h => h) (Or.inl ⟨by rfl, ?_⟩) ?_ ?_
          rotate_left
          ·intro w'
           go_simp
           with_reducible rfl
          rotate_left
          ·simp only [Act.put, List.setIfInBounds_toArray, List.set_cons_zero, List.set_cons_succ, i64_w, i32_w]
           rfl
          refine pure_ (i := 4) (N := some 29) (v := ?_) (a' := ?_) #[true, true, true, false, true, false, false, false, false] rfl rfl (any_of HT_.out (by kernel_rfl)) (fun _ _ _ h => h) (Or.inl ⟨by rfl, ?_⟩) ?_ ?_
          rotate_left
          ·intro w'
           go_simp
           with_reducible rfl
          rotate_left
          ·simp only [Act.put, List.setIfInBounds_toArray, List.set_cons_zero, List.set_cons_succ, i64_w, i32_w]
           rfl
          refine pure_ (i := 5) (N := some 30) (v := ?_) (a' := ?_) #[true, true, true, false, true, true, false, false, false] rfl rfl (any_of HT_.out (by kernel_rfl)) (fun _ _ _ h => h) (Or.inl ⟨by rfl, ?_⟩) ?_ ?_
          rotate_left
          ·intro w'
           go_simp
           with_reducible rfl
          rotate_left
          ·simp only [Act.put, List.setIfInBounds_toArray, List.set_cons_zero, List.set_cons_succ, i64_w, i32_w]
           rfl
          refine pure_ (i := 6) (N := some 31) (v := ?_) (a' := ?_) #[true, true, true, false, true, true, true, false, false] rfl rfl (any_of HT_.out (by kernel_rfl)) (fun _ _ _ h => h) (Or.inl ⟨by rfl, ?_⟩) ?_ ?_
          rotate_left
          ·intro w'
           go_simp
           with_reducible rfl
          rotate_left
          ·simp only [Act.put, List.setIfInBounds_toArray, List.set_cons_zero, List.set_cons_succ, i64_w, i32_w]
           rfl
          refine take_ (i := 3) (N := some 28) (v := ?_) (a' := ?_) #[true, true, true, true, true, true, true, false, false] rfl rfl (take_ofW HT_.out HW_.out (by kernel_rfl)) (fun _ _ _ h => h) (Or.inl ⟨by rfl, ?_⟩) hHeld ?_ ?_
          rotate_left
          ·rintro w' ⟨s0, s1, s2, s3, s4, s5⟩
           go_simp
           with_reducible rfl
          rotate_left
          ·simp only [Act.put, List.setIfInBounds_toArray, List.set_cons_zero, List.set_cons_succ, i64_w, i32_w]
           rfl
          refine take_ (i := 7) (N := some 32) (v := ?_) (a' := ?_) #[true, true, true, true, true, true, true, true, false] rfl rfl (take_ofW HT_.out HW_.out (by kernel_rfl)) (fun _ _ _ h => h) (Or.inl ⟨by rfl, ?_⟩) hHeld ?_ ?_
          rotate_left
          ·rintro w' ⟨s0, s1, s2, s3, s4, s5⟩
           go_simp
           with_reducible rfl
          rotate_left
          ·simp only [Act.put, List.setIfInBounds_toArray, List.set_cons_zero, List.set_cons_succ, i64_w, i32_w]
           rfl
          refine pure_ (i := 8) (N := some 33) (v := ?_) (a' := ?_) #[true, true, true, true, true, true, true, true, true] rfl rfl (any_of HT_.out (by kernel_rfl)) (fun _ _ _ h => h) (Or.inl ⟨by rfl, ?_⟩) ?_ ?_
          rotate_left
          ·intro w'
           go_simp
           with_reducible rfl
          rotate_left
          ·simp only [Act.put, List.setIfInBounds_toArray, List.set_cons_zero, List.set_cons_succ, i64_w, i32_w]
           rfl
          refine done_ (done_of HT_.out (by kernel_rfl)) ?_
          try go_wp2
          go_roundg k2
          case measure => have := HJ3.out; have := HK2.out; omega
          case rel => exact ⟨(wrap64 (x5_2 + 1)), (by first | rfl | (simp; done) | (simp [*]; done)), H', ⟨by have := HJ3.out; have := HK2.out; omega⟩, ⟨by exact zR HO_3.out⟩, ⟨by exact zR HO_4.out⟩, ⟨by exact zB <| BK274.out⟩, ⟨by repeat (first | (with_reducible first | exact HB.out | apply ba | apply bd | apply be | refine below_set ?_ GE274.out) | exact HB.out)⟩⟩
        ·rw [if_neg c18] at H
         exact absurd H (by simp)
       ·rw [if_neg c17] at H
        exact absurd H (by simp)
      ·rw [if_neg c16] at H
       have c16b0 : decide (x5_2 < (t275.length : Int)) = false := decide_eq_false c16
       clear c16
       obtain rfl := Option.some.inj H
       obtain ⟨Ao23, co23, eo23⟩ := Kd.R_slice HO_3.out
       subst eo23
       go_wp2
       go_ret
       exact ⟨by first | rfl | (simp [errW_none, errW_some] <;> rfl) | (simp [*, errW_none, errW_some] <;> rfl), by repeat (first | (with_reducible first | exact HB.out | apply ba | apply bd | apply be | refine below_set ?_ GE274.out) | exact HB.out)⟩

end Go.Proofs.Ytefbcebpokoinaa.Y

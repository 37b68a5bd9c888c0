-- Laid by a program of this session's (xprint.py, which runs the kit's print.py with patches of its own). Lean checks it.
import Derived.Test.YtefbcebpokoinaaY0
import Derived.Test.YtefbcebpokoinaaY1
import Derived.Test.YtefbcebpokoinaaY5
import Derived.Test.YtefbcebpokoinaaY7
namespace Go.Proofs.Ytefbcebpokoinaa.Y
open Go.RowKit Go.Proofs.YtefbcebpokoinaaW.PrintWords Go.Proofs.YtefbcebpokoinaaW.PrintLast Go.Proofs.YtefbcebpokoinaaW.PrintMore
attribute [local go_sem] max2_int min2_int max_two min_two max_three min_three max_four min_four   -- for this text's walks alone
set_option linter.unusedVariables false
set_option linter.unusedSimpArgs false

attribute [local go_sem high] eqA25
/-! ### clusterlocksref07_Atoms: function 32 -/
mutual
def clusterlocksref07_Atoms.l0 : Nat → List (S25) → Int → Option ((List (S25)) × Bool)
 | 0, _, _ => none
 | k + 1, x4, x6 => if x6 < (x4.length : Int) then (clusterlocksref07_Atoms.l1 k x4 x6 0) else (some (x4, true))
def clusterlocksref07_Atoms.l1 : Nat → List (S25) → Int → Int → Option ((List (S25)) × Bool)
 | 0, _, _, _ => none
 | k + 1, x4, x6, x7 => if x7 < x6 then (if 0 ≤ x6 then (if x6 < (x4.length : Int) then (if 0 ≤ x7 then (if x7 < (x4.length : Int) then (if ((rd_T25 x4 x6).f0).toList = ((rd_T25 x4 x7).f0).toList then (some (([] : List (S25)), false)) else (clusterlocksref07_Atoms.l1 k x4 x6 (wrap64 (x7 + 1)))) else (none)) else (none)) else (none)) else (none)) else (clusterlocksref07_Atoms.l0 k x4 (wrap64 (x6 + 1)))
end
def clusterlocksref07_Atoms.f (k : Nat) (a0_0 : Int) (a0_1 : ByteArray) (a0_2 : Int) (a0_3 : Int) (l0_4 : List (S28)) : Option ((List (S25)) × Bool) := (clusterlocksref07_Nodes.f k a0_0 a0_1 a0_2 a0_3 l0_4).bind fun t163 => (if t163 = 0 then (some (([] : List (S25)), false)) else ((clusterlocksref07_Add.f k ([] : List (S25)) a0_0 a0_1 a0_2 a0_3 l0_4).bind fun bt164 => (if bt164.2 = true then (if (bt164.1.length : Int) > 8 then (some (([] : List (S25)), false)) else (clusterlocksref07_Atoms.l0 k bt164.1 0)) else (some (([] : List (S25)), false)))))
theorem clusterlocksref07_Atoms.mono_l : ∀ k, (∀ y0 y1, LeO (clusterlocksref07_Atoms.l0 k y0 y1) (clusterlocksref07_Atoms.l0 (k + 1) y0 y1)) ∧ (∀ y0 y1 y2, LeO (clusterlocksref07_Atoms.l1 k y0 y1 y2) (clusterlocksref07_Atoms.l1 (k + 1) y0 y1 y2))
 | 0 => ⟨fun _ _ r h => by simp [clusterlocksref07_Atoms.l0] at h, fun _ _ _ r h => by simp [clusterlocksref07_Atoms.l1] at h⟩
 | k + 1 => by
  obtain ⟨ih0, ih1⟩ := clusterlocksref07_Atoms.mono_l k
  refine ⟨?_, ?_⟩
  ·intro y0 y1
   unfold clusterlocksref07_Atoms.l0
   repeat' first
   | (with_reducible exact ih0 _ _)
   | (with_reducible exact ih1 _ _ _)
   | (with_reducible exact clusterlocksref07_Add.mono _ _ _ _ _ _ _)
   | (with_reducible exact clusterlocksref07_Nodes.mono _ _ _ _ _ _)
   | (with_reducible exact LeO.refl _)
   | (with_reducible exact LeO.none _)
   | (with_reducible refine LeO.ite ?_ ?_)
   | (with_reducible refine LeO.bind ?_ (fun _ => ?_))
   | exact ih0 _ _
   | exact ih1 _ _ _
   | exact clusterlocksref07_Add.mono _ _ _ _ _ _ _
   | exact clusterlocksref07_Nodes.mono _ _ _ _ _ _
   | exact LeO.none _
   | refine LeO.ite ?_ ?_
   | refine LeO.bind ?_ (fun _ => ?_)
  ·intro y0 y1 y2
   unfold clusterlocksref07_Atoms.l1
   repeat' first
   | (with_reducible exact ih0 _ _)
   | (with_reducible exact ih1 _ _ _)
   | (with_reducible exact clusterlocksref07_Add.mono _ _ _ _ _ _ _)
   | (with_reducible exact clusterlocksref07_Nodes.mono _ _ _ _ _ _)
   | (with_reducible exact LeO.refl _)
   | (with_reducible exact LeO.none _)
   | (with_reducible refine LeO.ite ?_ ?_)
   | (with_reducible refine LeO.bind ?_ (fun _ => ?_))
   | exact ih0 _ _
   | exact ih1 _ _ _
   | exact clusterlocksref07_Add.mono _ _ _ _ _ _ _
   | exact clusterlocksref07_Nodes.mono _ _ _ _ _ _
   | exact LeO.none _
   | refine LeO.ite ?_ ?_
   | refine LeO.bind ?_ (fun _ => ?_)
theorem clusterlocksref07_Atoms.mono : ∀ a0 a1 a2 a3 a4 k, LeO (clusterlocksref07_Atoms.f k a0 a1 a2 a3 a4) (clusterlocksref07_Atoms.f (k + 1) a0 a1 a2 a3 a4) := by
 intro a0 a1 a2 a3 a4 k
 obtain ⟨ih0, ih1⟩ := clusterlocksref07_Atoms.mono_l k
 unfold clusterlocksref07_Atoms.f
 repeat' first
   | (with_reducible exact ih0 _ _)
   | (with_reducible exact ih1 _ _ _)
   | (with_reducible exact clusterlocksref07_Add.mono _ _ _ _ _ _ _)
   | (with_reducible exact clusterlocksref07_Nodes.mono _ _ _ _ _ _)
   | (with_reducible exact LeO.refl _)
   | (with_reducible exact LeO.none _)
   | (with_reducible refine LeO.ite ?_ ?_)
   | (with_reducible refine LeO.bind ?_ (fun _ => ?_))
   | exact ih0 _ _
   | exact ih1 _ _ _
   | exact clusterlocksref07_Add.mono _ _ _ _ _ _ _
   | exact clusterlocksref07_Nodes.mono _ _ _ _ _ _
   | exact LeO.none _
   | refine LeO.ite ?_ ?_
   | refine LeO.bind ?_ (fun _ => ?_)
set_option maxHeartbeats 8000000 in
set_option maxRecDepth 100000 in
theorem clusterlocksref07_Atoms.calls (k : Nat) (a0_0 : Int) (a0_1 : ByteArray) (a0_2 : Int) (a0_3 : Int) (A0_4 : Option Addr) (c0_4 : Nat) (l0_4 : List (S28)) (r1 : List (S25)) (r2 : Bool) (w : World) (hr0_4 : Kd.C k28 w A0_4 l0_4.length l0_4) (hc0_4 : l0_4.length ≤ c0_4) (h : clusterlocksref07_Atoms.f k a0_0 a0_1 a0_2 a0_3 l0_4 = some (r1, r2)) :
  Calls Try.prog 32 #[.agg #[.int .i64 a0_0, .string a0_1, .int .i64 a0_2, .int .i64 a0_3, .slice A0_4 l0_4.length c0_4]] w fun e w' => ∃ v0_ : Value, e = .returned (.tuple #[v0_, .bool r2]) ∧ Kd.R k25 25 w' w.heap.size (fun _ => True) v0_ r1 ∧ Below w.heap.size w w' := by
 have hu28 := Try.underlying28
 have HR0_4 := Aside0.mk hr0_4
 have HC0_4 := Aside0.mk hc0_4
 clear hr0_4 hc0_4
 have HB := am (Below.refl w.heap.size w)
 have H : ((clusterlocksref07_Nodes.f k a0_0 a0_1 a0_2 a0_3 l0_4).bind fun t163 => (if t163 = 0 then (some (([] : List (S25)), false)) else ((clusterlocksref07_Add.f k ([] : List (S25)) a0_0 a0_1 a0_2 a0_3 l0_4).bind fun bt164 => (if bt164.2 = true then (if (bt164.1.length : Int) > 8 then (some (([] : List (S25)), false)) else (clusterlocksref07_Atoms.l0 k bt164.1 0)) else (some (([] : List (S25)), false)))))) = some (r1, r2) := h
 clear h
 replace H := Option.bind_eq_some_iff.mp H
 obtain ⟨t163, A20, H⟩ := H
 replace H : (if t163 = 0 then (some (([] : List (S25)), false)) else ((clusterlocksref07_Add.f k ([] : List (S25)) a0_0 a0_1 a0_2 a0_3 l0_4).bind fun bt164 => (if bt164.2 = true then (if (bt164.1.length : Int) > 8 then (some (([] : List (S25)), false)) else (clusterlocksref07_Atoms.l0 k bt164.1 0)) else (some (([] : List (S25)), false))))) = some (r1, r2) := H
 have A2 := Aside0.mk A20
 clear A20
 by_cases c3 : t163 = 0
 ·rw [if_pos c3] at H
  have c3b0 : (t163 == 0) = true := beq_iff_eq.mpr c3
  have c3b1 : (t163 != 0) = false := bne_eq_false_iff_eq.mpr c3
  clear c3
  simp only [Option.some.injEq, Prod.mk.injEq] at H
  obtain ⟨rfl, rfl⟩ := H
  go_enter Try.func32, Try.ntmps32
  go_wp2_with (first | ((with_reducible refine gate_dst (N := 1) rfl ?_); (try (refine gate_guard (by rfl) ?_; dsimp only)); refine box_event ?hg (N := 1) ?hd (cs := #[.int .i64 a0_0, .string a0_1, .int .i64 a0_2, .int .i64 a0_3, .slice A0_4 l0_4.length c0_4]) (t := 28) ?hr ?_; (case hd => rfl); (case hg => rfl); (case hr => first | (go_simp; done) | (go_simp; rfl)); intro gb162 hg w4 hbox hb; have n0_ := am (below_step (zL HB.out) hb); have n1_ := am (hbox); have n2_ := am (zS hg HB.out); have n3_ := am (zS hg HB.out); clear HB; have HB := n0_; have BK162 := n1_; have GW162 := n2_; have GE162 := n3_; clear n0_ n1_ n2_ n3_; clear hb hbox hg; obtain ⟨hcz5_0, hcz5_1, hcz5_2, hcz5_3, hcz5_4, hfz5_0, hfz5_1, hfz5_2, hfz5_3, hfz5_4⟩ := b5 BK162.out) | (go_at_call 42; (with_reducible refine (clusterlocksref07_Nodes.calls k a0_0 a0_1 a0_2 a0_3 _ _ l0_4 t163 _ ?side1 ?side2 A2.out).mono ?_); (case side1 => exact zC (Kd.C_below HR0_4.out HB.out)); (case side2 => exact HC0_4.out); rintro e w6 ⟨rfl, hb⟩; have n0_ := am (blk_below (zB BK162.out) hb); have n1_ := am (below_step (zL HB.out) hb); clear BK162 HB; have BK162 := n0_; have HB := n1_; clear n0_ n1_; (try clear hb); (try clear hb2); (try clear hk); (try clear hi)))
  repeat (go_quiet (first | ((with_reducible refine gate_dst (N := 1) rfl ?_); (try (refine gate_guard (by rfl) ?_; dsimp only)); refine box_event ?hg (N := 1) ?hd (cs := #[.int .i64 a0_0, .string a0_1, .int .i64 a0_2, .int .i64 a0_3, .slice A0_4 l0_4.length c0_4]) (t := 28) ?hr ?_; (case hd => rfl); (case hg => rfl); (case hr => first | (go_simp; done) | (go_simp; rfl)); intro gb162 hg w4 hbox hb; have n0_ := am (below_step (zL HB.out) hb); have n1_ := am (hbox); have n2_ := am (zS hg HB.out); have n3_ := am (zS hg HB.out); clear HB; have HB := n0_; have BK162 := n1_; have GW162 := n2_; have GE162 := n3_; clear n0_ n1_ n2_ n3_; clear hb hbox hg; obtain ⟨hcz5_0, hcz5_1, hcz5_2, hcz5_3, hcz5_4, hfz5_0, hfz5_1, hfz5_2, hfz5_3, hfz5_4⟩ := b5 BK162.out) | (go_at_call 42; (with_reducible refine (clusterlocksref07_Nodes.calls k a0_0 a0_1 a0_2 a0_3 _ _ l0_4 t163 _ ?side1 ?side2 A2.out).mono ?_); (case side1 => exact zC (Kd.C_below HR0_4.out HB.out)); (case side2 => exact HC0_4.out); rintro e w6 ⟨rfl, hb⟩; have n0_ := am (blk_below (zB BK162.out) hb); have n1_ := am (below_step (zL HB.out) hb); clear BK162 HB; have BK162 := n0_; have HB := n1_; clear n0_ n1_; (try clear hb); (try clear hb2); (try clear hk); (try clear hi))); try go_wp2_with (first | ((with_reducible refine gate_dst (N := 1) rfl ?_); (try (refine gate_guard (by rfl) ?_; dsimp only)); refine box_event ?hg (N := 1) ?hd (cs := #[.int .i64 a0_0, .string a0_1, .int .i64 a0_2, .int .i64 a0_3, .slice A0_4 l0_4.length c0_4]) (t := 28) ?hr ?_; (case hd => rfl); (case hg => rfl); (case hr => first | (go_simp; done) | (go_simp; rfl)); intro gb162 hg w4 hbox hb; have n0_ := am (below_step (zL HB.out) hb); have n1_ := am (hbox); have n2_ := am (zS hg HB.out); have n3_ := am (zS hg HB.out); clear HB; have HB := n0_; have BK162 := n1_; have GW162 := n2_; have GE162 := n3_; clear n0_ n1_ n2_ n3_; clear hb hbox hg; obtain ⟨hcz5_0, hcz5_1, hcz5_2, hcz5_3, hcz5_4, hfz5_0, hfz5_1, hfz5_2, hfz5_3, hfz5_4⟩ := b5 BK162.out) | (go_at_call 42; (with_reducible refine (clusterlocksref07_Nodes.calls k a0_0 a0_1 a0_2 a0_3 _ _ l0_4 t163 _ ?side1 ?side2 A2.out).mono ?_); (case side1 => exact zC (Kd.C_below HR0_4.out HB.out)); (case side2 => exact HC0_4.out); rintro e w6 ⟨rfl, hb⟩; have n0_ := am (blk_below (zB BK162.out) hb); have n1_ := am (below_step (zL HB.out) hb); clear BK162 HB; have BK162 := n0_; have HB := n1_; clear n0_ n1_; (try clear hb); (try clear hb2); (try clear hk); (try clear hi))))
  go_ret2
  exact ⟨_, by first | rfl | (simp [errW_none, errW_some] <;> rfl) | (simp [*, errW_none, errW_some] <;> rfl), by first | exact Kd.R_nil _ _ _ _ _ | exact Kd.N_nil _ _ _ _ _ | exact Kd.V_nil _ _ _ _ _ | exact Kd.Q_nil _ _ _ _ _ | exact Kd.S_nil _ _ _ _ _, by repeat (first | (with_reducible first | exact HB.out | apply ba | apply bd | apply be | refine below_set ?_ GE162.out) | exact HB.out)⟩
 ·rw [if_neg c3] at H
  have c3b0 : (t163 == 0) = false := beq_eq_false_iff_ne.mpr c3
  have c3b1 : (t163 != 0) = true := bne_iff_ne.mpr c3
  replace H := Option.bind_eq_some_iff.mp H
  obtain ⟨⟨t164, t167⟩, A70, H⟩ := H
  replace H : (if t167 = true then (if (t164.length : Int) > 8 then (some (([] : List (S25)), false)) else (clusterlocksref07_Atoms.l0 k t164 0)) else (some (([] : List (S25)), false))) = some (r1, r2) := H
  have A7 := Aside0.mk A70
  clear A70
  by_cases c8 : t167 = true
  ·subst c8
   have H1 : (if (t164.length : Int) > 8 then (some (([] : List (S25)), false)) else (clusterlocksref07_Atoms.l0 k t164 0)) = some (r1, r2) := by rw [if_pos rfl] at H; exact H
   clear H
   have H := H1
   clear H1
   by_cases c9 : (t164.length : Int) > 8
   ·rw [if_pos c9] at H
    have c9b0 : decide (8 < (t164.length : Int)) = true := decide_eq_true c9
    have c9b1 : decide (8 < t164.length) = true := decide_eq_true (by omega)
    clear c9
    simp only [Option.some.injEq, Prod.mk.injEq] at H
    obtain ⟨rfl, rfl⟩ := H
    go_enter Try.func32, Try.ntmps32
    go_wp2_with (first | ((with_reducible refine gate_dst (N := 1) rfl ?_); (try (refine gate_guard (by rfl) ?_; dsimp only)); refine box_event ?hg (N := 1) ?hd (cs := #[.int .i64 a0_0, .string a0_1, .int .i64 a0_2, .int .i64 a0_3, .slice A0_4 l0_4.length c0_4]) (t := 28) ?hr ?_; (case hd => rfl); (case hg => rfl); (case hr => first | (go_simp; done) | (go_simp; rfl)); intro gb162 hg w10 hbox hb; have n0_ := am (below_step (zL HB.out) hb); have n1_ := am (hbox); have n2_ := am (zS hg HB.out); have n3_ := am (zS hg HB.out); clear HB; have HB := n0_; have BK162 := n1_; have GW162 := n2_; have GE162 := n3_; clear n0_ n1_ n2_ n3_; clear hb hbox hg; obtain ⟨hcz11_0, hcz11_1, hcz11_2, hcz11_3, hcz11_4, hfz11_0, hfz11_1, hfz11_2, hfz11_3, hfz11_4⟩ := b5 BK162.out) | (go_at_call 42; (with_reducible refine (clusterlocksref07_Nodes.calls k a0_0 a0_1 a0_2 a0_3 _ _ l0_4 t163 _ ?side1 ?side2 A2.out).mono ?_); (case side1 => exact zC (Kd.C_below HR0_4.out HB.out)); (case side2 => exact HC0_4.out); rintro e w12 ⟨rfl, hb⟩; have n0_ := am (blk_below (zB BK162.out) hb); have n1_ := am (below_step (zL HB.out) hb); clear BK162 HB; have BK162 := n0_; have HB := n1_; clear n0_ n1_; (try clear hb); (try clear hb2); (try clear hk); (try clear hi); obtain ⟨hcz13_0, hcz13_1, hcz13_2, hcz13_3, hcz13_4, hfz13_0, hfz13_1, hfz13_2, hfz13_3, hfz13_4⟩ := b5 BK162.out) | (go_at_call 43; (refine (clusterlocksref07_Add.calls k (fun k_ => some k_ = (.slice none 0 0 : Value).ownBlock) (.slice none 0 0) ([] : List (S25)) a0_0 a0_1 a0_2 a0_3 _ _ l0_4 t164 true w _ ?side1 ?side2 ?side3 ?side4 A7.out).mono ?_); (case side1 => exact zL HB.out); (case side2 => exact Kd.R_nil _ _ _ _ _); (case side3 => exact Kd.C_kept_came k28_heap HR0_4.out (zL HB.out) (fun k_ hs_ => (fun e_ => by simp [Value.ownBlock] at e_) hs_)); (case side4 => exact HC0_4.out); rintro e w14 ⟨v165, rfl, ho0, hb, hkp⟩; replace ho0 := ho0 rfl; have n0_ := am (blk_kept (zB BK162.out) hkp (fun hs_ => (fun e_ => by simp [Value.ownBlock] at e_) hs_)); have n1_ := am (Kd.R_mono (ok' := fun k_ => True) ho0 (fun k_ hk_ => trivial)); have n2_ := am (hb); clear BK162 HB; have BK162 := n0_; have HO166 := n1_; have HB := n2_; clear n0_ n1_ n2_; (try clear hb); (try clear hkp); (try clear ho0); obtain ⟨Ao15, co15, eo15⟩ := Kd.R_slice HO166.out; subst eo15))
    repeat (go_quiet (first | ((with_reducible refine gate_dst (N := 1) rfl ?_); (try (refine gate_guard (by rfl) ?_; dsimp only)); refine box_event ?hg (N := 1) ?hd (cs := #[.int .i64 a0_0, .string a0_1, .int .i64 a0_2, .int .i64 a0_3, .slice A0_4 l0_4.length c0_4]) (t := 28) ?hr ?_; (case hd => rfl); (case hg => rfl); (case hr => first | (go_simp; done) | (go_simp; rfl)); intro gb162 hg w10 hbox hb; have n0_ := am (below_step (zL HB.out) hb); have n1_ := am (hbox); have n2_ := am (zS hg HB.out); have n3_ := am (zS hg HB.out); clear HB; have HB := n0_; have BK162 := n1_; have GW162 := n2_; have GE162 := n3_; clear n0_ n1_ n2_ n3_; clear hb hbox hg; obtain ⟨hcz11_0, hcz11_1, hcz11_2, hcz11_3, hcz11_4, hfz11_0, hfz11_1, hfz11_2, hfz11_3, hfz11_4⟩ := b5 BK162.out) | (go_at_call 42; (with_reducible refine (clusterlocksref07_Nodes.calls k a0_0 a0_1 a0_2 a0_3 _ _ l0_4 t163 _ ?side1 ?side2 A2.out).mono ?_); (case side1 => exact zC (Kd.C_below HR0_4.out HB.out)); (case side2 => exact HC0_4.out); rintro e w12 ⟨rfl, hb⟩; have n0_ := am (blk_below (zB BK162.out) hb); have n1_ := am (below_step (zL HB.out) hb); clear BK162 HB; have BK162 := n0_; have HB := n1_; clear n0_ n1_; (try clear hb); (try clear hb2); (try clear hk); (try clear hi); obtain ⟨hcz13_0, hcz13_1, hcz13_2, hcz13_3, hcz13_4, hfz13_0, hfz13_1, hfz13_2, hfz13_3, hfz13_4⟩ := b5 BK162.out) | (go_at_call 43; (refine (clusterlocksref07_Add.calls k (fun k_ => some k_ = (.slice none 0 0 : Value).ownBlock) (.slice none 0 0) ([] : List (S25)) a0_0 a0_1 a0_2 a0_3 _ _ l0_4 t164 true w _ ?side1 ?side2 ?side3 ?side4 A7.out).mono ?_); (case side1 => exact zL HB.out); (case side2 => exact Kd.R_nil _ _ _ _ _); (case side3 => exact Kd.C_kept_came k28_heap HR0_4.out (zL HB.out) (fun k_ hs_ => (fun e_ => by simp [Value.ownBlock] at e_) hs_)); (case side4 => exact HC0_4.out); rintro e w14 ⟨v165, rfl, ho0, hb, hkp⟩; replace ho0 := ho0 rfl; have n0_ := am (blk_kept (zB BK162.out) hkp (fun hs_ => (fun e_ => by simp [Value.ownBlock] at e_) hs_)); have n1_ := am (Kd.R_mono (ok' := fun k_ => True) ho0 (fun k_ hk_ => trivial)); have n2_ := am (hb); clear BK162 HB; have BK162 := n0_; have HO166 := n1_; have HB := n2_; clear n0_ n1_ n2_; (try clear hb); (try clear hkp); (try clear ho0); obtain ⟨Ao15, co15, eo15⟩ := Kd.R_slice HO166.out; subst eo15)); try go_wp2_with (first | ((with_reducible refine gate_dst (N := 1) rfl ?_); (try (refine gate_guard (by rfl) ?_; dsimp only)); refine box_event ?hg (N := 1) ?hd (cs := #[.int .i64 a0_0, .string a0_1, .int .i64 a0_2, .int .i64 a0_3, .slice A0_4 l0_4.length c0_4]) (t := 28) ?hr ?_; (case hd => rfl); (case hg => rfl); (case hr => first | (go_simp; done) | (go_simp; rfl)); intro gb162 hg w10 hbox hb; have n0_ := am (below_step (zL HB.out) hb); have n1_ := am (hbox); have n2_ := am (zS hg HB.out); have n3_ := am (zS hg HB.out); clear HB; have HB := n0_; have BK162 := n1_; have GW162 := n2_; have GE162 := n3_; clear n0_ n1_ n2_ n3_; clear hb hbox hg; obtain ⟨hcz11_0, hcz11_1, hcz11_2, hcz11_3, hcz11_4, hfz11_0, hfz11_1, hfz11_2, hfz11_3, hfz11_4⟩ := b5 BK162.out) | (go_at_call 42; (with_reducible refine (clusterlocksref07_Nodes.calls k a0_0 a0_1 a0_2 a0_3 _ _ l0_4 t163 _ ?side1 ?side2 A2.out).mono ?_); (case side1 => exact zC (Kd.C_below HR0_4.out HB.out)); (case side2 => exact HC0_4.out); rintro e w12 ⟨rfl, hb⟩; have n0_ := am (blk_below (zB BK162.out) hb); have n1_ := am (below_step (zL HB.out) hb); clear BK162 HB; have BK162 := n0_; have HB := n1_; clear n0_ n1_; (try clear hb); (try clear hb2); (try clear hk); (try clear hi); obtain ⟨hcz13_0, hcz13_1, hcz13_2, hcz13_3, hcz13_4, hfz13_0, hfz13_1, hfz13_2, hfz13_3, hfz13_4⟩ := b5 BK162.out) | (go_at_call 43; (refine (clusterlocksref07_Add.calls k (fun k_ => some k_ = (.slice none 0 0 : Value).ownBlock) (.slice none 0 0) ([] : List (S25)) a0_0 a0_1 a0_2 a0_3 _ _ l0_4 t164 true w _ ?side1 ?side2 ?side3 ?side4 A7.out).mono ?_); (case side1 => exact zL HB.out); (case side2 => exact Kd.R_nil _ _ _ _ _); (case side3 => exact Kd.C_kept_came k28_heap HR0_4.out (zL HB.out) (fun k_ hs_ => (fun e_ => by simp [Value.ownBlock] at e_) hs_)); (case side4 => exact HC0_4.out); rintro e w14 ⟨v165, rfl, ho0, hb, hkp⟩; replace ho0 := ho0 rfl; have n0_ := am (blk_kept (zB BK162.out) hkp (fun hs_ => (fun e_ => by simp [Value.ownBlock] at e_) hs_)); have n1_ := am (Kd.R_mono (ok' := fun k_ => True) ho0 (fun k_ hk_ => trivial)); have n2_ := am (hb); clear BK162 HB; have BK162 := n0_; have HO166 := n1_; have HB := n2_; clear n0_ n1_ n2_; (try clear hb); (try clear hkp); (try clear ho0); obtain ⟨Ao15, co15, eo15⟩ := Kd.R_slice HO166.out; subst eo15)))
    go_ret2
    exact ⟨_, by first | rfl | (simp [errW_none, errW_some] <;> rfl) | (simp [*, errW_none, errW_some] <;> rfl), by first | exact Kd.R_nil _ _ _ _ _ | exact Kd.N_nil _ _ _ _ _ | exact Kd.V_nil _ _ _ _ _ | exact Kd.Q_nil _ _ _ _ _ | exact Kd.S_nil _ _ _ _ _, by repeat (first | (with_reducible first | exact HB.out | apply ba | apply bd | apply be | refine below_set ?_ GE162.out) | exact HB.out)⟩
   ·rw [if_neg c9] at H
    have c9b0 : decide (8 < (t164.length : Int)) = false := decide_eq_false c9
    have c9b1 : decide (8 < t164.length) = false := decide_eq_false (by omega)
    clear c9
    have H' := Aside0.mk H
    clear H
    go_enter Try.func32, Try.ntmps32
    go_wp2_with (first | ((with_reducible refine gate_dst (N := 1) rfl ?_); (try (refine gate_guard (by rfl) ?_; dsimp only)); refine box_event ?hg (N := 1) ?hd (cs := #[.int .i64 a0_0, .string a0_1, .int .i64 a0_2, .int .i64 a0_3, .slice A0_4 l0_4.length c0_4]) (t := 28) ?hr ?_; (case hd => rfl); (case hg => rfl); (case hr => first | (go_simp; done) | (go_simp; rfl)); intro gb162 hg w16 hbox hb; have n0_ := am (below_step (zL HB.out) hb); have n1_ := am (hbox); have n2_ := am (zS hg HB.out); have n3_ := am (zS hg HB.out); clear HB; have HB := n0_; have BK162 := n1_; have GW162 := n2_; have GE162 := n3_; clear n0_ n1_ n2_ n3_; clear hb hbox hg; obtain ⟨hcz17_0, hcz17_1, hcz17_2, hcz17_3, hcz17_4, hfz17_0, hfz17_1, hfz17_2, hfz17_3, hfz17_4⟩ := b5 BK162.out) | (go_at_call 42; (with_reducible refine (clusterlocksref07_Nodes.calls k a0_0 a0_1 a0_2 a0_3 _ _ l0_4 t163 _ ?side1 ?side2 A2.out).mono ?_); (case side1 => exact zC (Kd.C_below HR0_4.out HB.out)); (case side2 => exact HC0_4.out); rintro e w18 ⟨rfl, hb⟩; have n0_ := am (blk_below (zB BK162.out) hb); have n1_ := am (below_step (zL HB.out) hb); clear BK162 HB; have BK162 := n0_; have HB := n1_; clear n0_ n1_; (try clear hb); (try clear hb2); (try clear hk); (try clear hi); obtain ⟨hcz19_0, hcz19_1, hcz19_2, hcz19_3, hcz19_4, hfz19_0, hfz19_1, hfz19_2, hfz19_3, hfz19_4⟩ := b5 BK162.out) | (go_at_call 43; (refine (clusterlocksref07_Add.calls k (fun k_ => some k_ = (.slice none 0 0 : Value).ownBlock) (.slice none 0 0) ([] : List (S25)) a0_0 a0_1 a0_2 a0_3 _ _ l0_4 t164 true w _ ?side1 ?side2 ?side3 ?side4 A7.out).mono ?_); (case side1 => exact zL HB.out); (case side2 => exact Kd.R_nil _ _ _ _ _); (case side3 => exact Kd.C_kept_came k28_heap HR0_4.out (zL HB.out) (fun k_ hs_ => (fun e_ => by simp [Value.ownBlock] at e_) hs_)); (case side4 => exact HC0_4.out); rintro e w20 ⟨v165, rfl, ho0, hb, hkp⟩; replace ho0 := ho0 rfl; have n0_ := am (blk_kept (zB BK162.out) hkp (fun hs_ => (fun e_ => by simp [Value.ownBlock] at e_) hs_)); have n1_ := am (Kd.R_mono (ok' := fun k_ => True) ho0 (fun k_ hk_ => trivial)); have n2_ := am (hb); clear BK162 HB; have BK162 := n0_; have HO166 := n1_; have HB := n2_; clear n0_ n1_ n2_; (try clear hb); (try clear hkp); (try clear ho0); obtain ⟨Ao21, co21, eo21⟩ := Kd.R_slice HO166.out; subst eo21))
    repeat (go_quiet (first | ((with_reducible refine gate_dst (N := 1) rfl ?_); (try (refine gate_guard (by rfl) ?_; dsimp only)); refine box_event ?hg (N := 1) ?hd (cs := #[.int .i64 a0_0, .string a0_1, .int .i64 a0_2, .int .i64 a0_3, .slice A0_4 l0_4.length c0_4]) (t := 28) ?hr ?_; (case hd => rfl); (case hg => rfl); (case hr => first | (go_simp; done) | (go_simp; rfl)); intro gb162 hg w16 hbox hb; have n0_ := am (below_step (zL HB.out) hb); have n1_ := am (hbox); have n2_ := am (zS hg HB.out); have n3_ := am (zS hg HB.out); clear HB; have HB := n0_; have BK162 := n1_; have GW162 := n2_; have GE162 := n3_; clear n0_ n1_ n2_ n3_; clear hb hbox hg; obtain ⟨hcz17_0, hcz17_1, hcz17_2, hcz17_3, hcz17_4, hfz17_0, hfz17_1, hfz17_2, hfz17_3, hfz17_4⟩ := b5 BK162.out) | (go_at_call 42; (with_reducible refine (clusterlocksref07_Nodes.calls k a0_0 a0_1 a0_2 a0_3 _ _ l0_4 t163 _ ?side1 ?side2 A2.out).mono ?_); (case side1 => exact zC (Kd.C_below HR0_4.out HB.out)); (case side2 => exact HC0_4.out); rintro e w18 ⟨rfl, hb⟩; have n0_ := am (blk_below (zB BK162.out) hb); have n1_ := am (below_step (zL HB.out) hb); clear BK162 HB; have BK162 := n0_; have HB := n1_; clear n0_ n1_; (try clear hb); (try clear hb2); (try clear hk); (try clear hi); obtain ⟨hcz19_0, hcz19_1, hcz19_2, hcz19_3, hcz19_4, hfz19_0, hfz19_1, hfz19_2, hfz19_3, hfz19_4⟩ := b5 BK162.out) | (go_at_call 43; (refine (clusterlocksref07_Add.calls k (fun k_ => some k_ = (.slice none 0 0 : Value).ownBlock) (.slice none 0 0) ([] : List (S25)) a0_0 a0_1 a0_2 a0_3 _ _ l0_4 t164 true w _ ?side1 ?side2 ?side3 ?side4 A7.out).mono ?_); (case side1 => exact zL HB.out); (case side2 => exact Kd.R_nil _ _ _ _ _); (case side3 => exact Kd.C_kept_came k28_heap HR0_4.out (zL HB.out) (fun k_ hs_ => (fun e_ => by simp [Value.ownBlock] at e_) hs_)); (case side4 => exact HC0_4.out); rintro e w20 ⟨v165, rfl, ho0, hb, hkp⟩; replace ho0 := ho0 rfl; have n0_ := am (blk_kept (zB BK162.out) hkp (fun hs_ => (fun e_ => by simp [Value.ownBlock] at e_) hs_)); have n1_ := am (Kd.R_mono (ok' := fun k_ => True) ho0 (fun k_ hk_ => trivial)); have n2_ := am (hb); clear BK162 HB; have BK162 := n0_; have HO166 := n1_; have HB := n2_; clear n0_ n1_ n2_; (try clear hb); (try clear hkp); (try clear ho0); obtain ⟨Ao21, co21, eo21⟩ := Kd.R_slice HO166.out; subst eo21)); try go_wp2_with (first | ((with_reducible refine gate_dst (N := 1) rfl ?_); (try (refine gate_guard (by rfl) ?_; dsimp only)); refine box_event ?hg (N := 1) ?hd (cs := #[.int .i64 a0_0, .string a0_1, .int .i64 a0_2, .int .i64 a0_3, .slice A0_4 l0_4.length c0_4]) (t := 28) ?hr ?_; (case hd => rfl); (case hg => rfl); (case hr => first | (go_simp; done) | (go_simp; rfl)); intro gb162 hg w16 hbox hb; have n0_ := am (below_step (zL HB.out) hb); have n1_ := am (hbox); have n2_ := am (zS hg HB.out); have n3_ := am (zS hg HB.out); clear HB; have HB := n0_; have BK162 := n1_; have GW162 := n2_; have GE162 := n3_; clear n0_ n1_ n2_ n3_; clear hb hbox hg; obtain ⟨hcz17_0, hcz17_1, hcz17_2, hcz17_3, hcz17_4, hfz17_0, hfz17_1, hfz17_2, hfz17_3, hfz17_4⟩ := b5 BK162.out) | (go_at_call 42; (with_reducible refine (clusterlocksref07_Nodes.calls k a0_0 a0_1 a0_2 a0_3 _ _ l0_4 t163 _ ?side1 ?side2 A2.out).mono ?_); (case side1 => exact zC (Kd.C_below HR0_4.out HB.out)); (case side2 => exact HC0_4.out); rintro e w18 ⟨rfl, hb⟩; have n0_ := am (blk_below (zB BK162.out) hb); have n1_ := am (below_step (zL HB.out) hb); clear BK162 HB; have BK162 := n0_; have HB := n1_; clear n0_ n1_; (try clear hb); (try clear hb2); (try clear hk); (try clear hi); obtain ⟨hcz19_0, hcz19_1, hcz19_2, hcz19_3, hcz19_4, hfz19_0, hfz19_1, hfz19_2, hfz19_3, hfz19_4⟩ := b5 BK162.out) | (go_at_call 43; (refine (clusterlocksref07_Add.calls k (fun k_ => some k_ = (.slice none 0 0 : Value).ownBlock) (.slice none 0 0) ([] : List (S25)) a0_0 a0_1 a0_2 a0_3 _ _ l0_4 t164 true w _ ?side1 ?side2 ?side3 ?side4 A7.out).mono ?_); (case side1 => exact zL HB.out); (case side2 => exact Kd.R_nil _ _ _ _ _); (case side3 => exact Kd.C_kept_came k28_heap HR0_4.out (zL HB.out) (fun k_ hs_ => (fun e_ => by simp [Value.ownBlock] at e_) hs_)); (case side4 => exact HC0_4.out); rintro e w20 ⟨v165, rfl, ho0, hb, hkp⟩; replace ho0 := ho0 rfl; have n0_ := am (blk_kept (zB BK162.out) hkp (fun hs_ => (fun e_ => by simp [Value.ownBlock] at e_) hs_)); have n1_ := am (Kd.R_mono (ok' := fun k_ => True) ho0 (fun k_ hk_ => trivial)); have n2_ := am (hb); clear BK162 HB; have BK162 := n0_; have HO166 := n1_; have HB := n2_; clear n0_ n1_ n2_; (try clear hb); (try clear hkp); (try clear ho0); obtain ⟨Ao21, co21, eo21⟩ := Kd.R_slice HO166.out; subst eo21)))
    go_loopg [6] k (fun kq v6 w' => ∃ (x6_1 : Int), v6 = .int .i64 x6_1 ∧ Aside0 (clusterlocksref07_Atoms.l0 kq t164 x6_1 = some (r1, r2)) ∧ Aside0 (kq ≤ k) ∧ Aside0 (Kd.R k25 25 w' w.heap.size (fun _ => True) (.slice Ao21 t164.length co21) t164) ∧ Aside0 (w'.heap[gb162]? = some (.cells #[.int .i64 a0_0, .string a0_1, .int .i64 a0_2, .int .i64 a0_3, (.slice A0_4 l0_4.length c0_4)] 28 (0, 0))) ∧ Aside0 (Below w.heap.size w w'))
    case atStart => exact ⟨(0), (by first | rfl | (simp; done) | (simp [*]; done)), H', ⟨Nat.le_refl _⟩, ⟨by exact zR HO166.out⟩, ⟨by exact zB <| BK162.out⟩, ⟨by repeat (first | (with_reducible first | exact HB.out | apply ba | apply bd | apply be | refine below_set ?_ GE162.out) | exact HB.out)⟩⟩
    case round =>
     clear H'
     try clear p2
     try clear c3
     try clear c3b0
     try clear c3b1
     try clear c8
     try clear c9
     try clear c9b0
     try clear c9b1
     try clear hcz11_0
     try clear hcz11_1
     try clear hcz11_2
     try clear hcz11_3
     try clear hcz11_4
     try clear hcz13_0
     try clear hcz13_1
     try clear hcz13_2
     try clear hcz13_3
     try clear hcz13_4
     try clear hcz17_0
     try clear hcz17_1
     try clear hcz17_2
     try clear hcz17_3
     try clear hcz17_4
     try clear hcz19_0
     try clear hcz19_1
     try clear hcz19_2
     try clear hcz19_3
     try clear hcz19_4
     try clear hcz5_0
     try clear hcz5_1
     try clear hcz5_2
     try clear hcz5_3
     try clear hcz5_4
     try clear hfz11_0
     try clear hfz11_1
     try clear hfz11_2
     try clear hfz11_3
     try clear hfz11_4
     try clear hfz13_0
     try clear hfz13_1
     try clear hfz13_2
     try clear hfz13_3
     try clear hfz13_4
     try clear hfz17_0
     try clear hfz17_1
     try clear hfz17_2
     try clear hfz17_3
     try clear hfz17_4
     try clear hfz19_0
     try clear hfz19_1
     try clear hfz19_2
     try clear hfz19_3
     try clear hfz19_4
     try clear hfz5_0
     try clear hfz5_1
     try clear hfz5_2
     try clear hfz5_3
     try clear hfz5_4
     obtain ⟨x6_1, rfl, HA, HK1, HO_4, BK162, HB⟩ := hrel
     cases gk with
     | zero => exact absurd HA.out (by simp [clusterlocksref07_Atoms.l0])
     | succ k1 =>
      have H := HA.out
      clear HA
      simp only [clusterlocksref07_Atoms.l0] at H
      by_cases c22 : x6_1 < (t164.length : Int)
      ·rw [if_pos c22] at H
       have c22b0 : decide (x6_1 < (t164.length : Int)) = true := decide_eq_true c22
       clear c22
       have H' := Aside0.mk H
       clear H
       go_wp2
       repeat (go_quiet (fail); try go_wp2)
       go_loopg [7] k1 (fun kq v7 w' => ∃ (x7_2 : Int), v7 = .int .i64 x7_2 ∧ Aside0 (clusterlocksref07_Atoms.l1 kq t164 x6_1 x7_2 = some (r1, r2)) ∧ Aside0 (kq ≤ k1) ∧ Aside0 (Kd.R k25 25 w' w.heap.size (fun _ => True) (.slice Ao21 t164.length co21) t164) ∧ Aside0 (w'.heap[gb162]? = some (.cells #[.int .i64 a0_0, .string a0_1, .int .i64 a0_2, .int .i64 a0_3, (.slice A0_4 l0_4.length c0_4)] 28 (0, 0))) ∧ Aside0 (Below w.heap.size w w'))
       case atStart => exact ⟨(0), (by first | rfl | (simp; done) | (simp [*]; done)), H', ⟨Nat.le_refl _⟩, ⟨by exact zR HO_4.out⟩, ⟨by exact zB <| BK162.out⟩, ⟨by repeat (first | (with_reducible first | exact HB.out | apply ba | apply bd | apply be | refine below_set ?_ GE162.out) | exact HB.out)⟩⟩
       case round =>
        clear H'
        try clear c2
        try clear p2
        try clear c3
        try clear c3b0
        try clear c3b1
        try clear c8
        try clear c9
        try clear c9b0
        try clear c9b1
        try clear c22
        try clear c22b0
        try clear hcz11_0
        try clear hcz11_1
        try clear hcz11_2
        try clear hcz11_3
        try clear hcz11_4
        try clear hcz13_0
        try clear hcz13_1
        try clear hcz13_2
        try clear hcz13_3
        try clear hcz13_4
        try clear hcz17_0
        try clear hcz17_1
        try clear hcz17_2
        try clear hcz17_3
        try clear hcz17_4
        try clear hcz19_0
        try clear hcz19_1
        try clear hcz19_2
        try clear hcz19_3
        try clear hcz19_4
        try clear hcz5_0
        try clear hcz5_1
        try clear hcz5_2
        try clear hcz5_3
        try clear hcz5_4
        try clear hfz11_0
        try clear hfz11_1
        try clear hfz11_2
        try clear hfz11_3
        try clear hfz11_4
        try clear hfz13_0
        try clear hfz13_1
        try clear hfz13_2
        try clear hfz13_3
        try clear hfz13_4
        try clear hfz17_0
        try clear hfz17_1
        try clear hfz17_2
        try clear hfz17_3
        try clear hfz17_4
        try clear hfz19_0
        try clear hfz19_1
        try clear hfz19_2
        try clear hfz19_3
        try clear hfz19_4
        try clear hfz5_0
        try clear hfz5_1
        try clear hfz5_2
        try clear hfz5_3
        try clear hfz5_4
        try clear p2
        obtain ⟨x7_2, rfl, HA, HK2, HO_4, BK162, HB⟩ := hrel
        cases gk with
        | zero => exact absurd HA.out (by simp [clusterlocksref07_Atoms.l1])
        | succ k2 =>
         have H := HA.out
         clear HA
         simp only [clusterlocksref07_Atoms.l1] at H
         by_cases c23 : x7_2 < x6_1
         ·rw [if_pos c23] at H
          have c23b0 : decide (x7_2 < x6_1) = true := decide_eq_true c23
          clear c23
          by_cases c24 : 0 ≤ x6_1
          ·rw [if_pos c24] at H
           have c24b0 : decide (0 ≤ x6_1) = true := decide_eq_true c24
           clear c24
           by_cases c25 : x6_1 < (t164.length : Int)
           ·rw [if_pos c25] at H
            have c25b0 : decide (x6_1 < (t164.length : Int)) = true := decide_eq_true c25
            clear c25
            by_cases c26 : 0 ≤ x7_2
            ·rw [if_pos c26] at H
             have c26b0 : decide (0 ≤ x7_2) = true := decide_eq_true c26
             clear c26
             by_cases c27 : x7_2 < (t164.length : Int)
             ·rw [if_pos c27] at H
              have c27b0 : decide (x7_2 < (t164.length : Int)) = true := decide_eq_true c27
              clear c27
              by_cases c28 : ((rd_T25 t164 x6_1).f0).toList = ((rd_T25 t164 x7_2).f0).toList
              ·rw [if_pos c28] at H
               have c28b0 : (((rd_T25 t164 x6_1).f0).toList == ((rd_T25 t164 x7_2).f0).toList) = true := beq_iff_eq.mpr c28
               have c28b1 : (((rd_T25 t164 x6_1).f0).toList != ((rd_T25 t164 x7_2).f0).toList) = false := bne_eq_false_iff_eq.mpr c28
               clear c28
               simp only [Option.some.injEq, Prod.mk.injEq] at H
               obtain ⟨rfl, rfl⟩ := H
               have p168 : 0 ≤ (x6_1 : Int) := of_decide_eq_true (by first | (with_reducible assumption) | assumption)
               have q168 : x6_1 < (t164.length : Int) := of_decide_eq_true (by first | (with_reducible assumption) | assumption)
               obtain ⟨ad168, e168, hx168_0, hx168_1, hx168_2⟩ := at_T25 (Kd.R_reads' HO_4.out).2.2 x6_1 p168 q168
               cases e168
               replace p168 := eq_true p168
               replace q168 := eq_true q168
               have p169 : 0 ≤ (x7_2 : Int) := of_decide_eq_true (by first | (with_reducible assumption) | assumption)
               have q169 : x7_2 < (t164.length : Int) := of_decide_eq_true (by first | (with_reducible assumption) | assumption)
               obtain ⟨ad169, e169, hx169_0, hx169_1, hx169_2⟩ := at_T25 (Kd.R_reads' HO_4.out).2.2 x7_2 p169 q169
               obtain rfl : ad168 = ad169 := (by injection e169)
               replace p169 := eq_true p169
               replace q169 := eq_true q169
               go_wp2
               repeat (go_quiet (fail); try go_wp2)
               go_ret2
               exact ⟨_, by first | rfl | (simp [errW_none, errW_some] <;> rfl) | (simp [*, errW_none, errW_some] <;> rfl), by first | exact Kd.R_nil _ _ _ _ _ | exact Kd.N_nil _ _ _ _ _ | exact Kd.V_nil _ _ _ _ _ | exact Kd.Q_nil _ _ _ _ _ | exact Kd.S_nil _ _ _ _ _, by repeat (first | (with_reducible first | exact HB.out | apply ba | apply bd | apply be | refine below_set ?_ GE162.out) | exact HB.out)⟩
              ·rw [if_neg c28] at H
               have c28b0 : (((rd_T25 t164 x6_1).f0).toList == ((rd_T25 t164 x7_2).f0).toList) = false := beq_eq_false_iff_ne.mpr c28
               have c28b1 : (((rd_T25 t164 x6_1).f0).toList != ((rd_T25 t164 x7_2).f0).toList) = true := bne_iff_ne.mpr c28
               have H' := Aside0.mk H
               clear H
               have p168 : 0 ≤ (x6_1 : Int) := of_decide_eq_true (by first | (with_reducible assumption) | assumption)
               have q168 : x6_1 < (t164.length : Int) := of_decide_eq_true (by first | (with_reducible assumption) | assumption)
               obtain ⟨ad168, e168, hx168_0, hx168_1, hx168_2⟩ := at_T25 (Kd.R_reads' HO_4.out).2.2 x6_1 p168 q168
               cases e168
               replace p168 := eq_true p168
               replace q168 := eq_true q168
               have p169 : 0 ≤ (x7_2 : Int) := of_decide_eq_true (by first | (with_reducible assumption) | assumption)
               have q169 : x7_2 < (t164.length : Int) := of_decide_eq_true (by first | (with_reducible assumption) | assumption)
               obtain ⟨ad169, e169, hx169_0, hx169_1, hx169_2⟩ := at_T25 (Kd.R_reads' HO_4.out).2.2 x7_2 p169 q169
               obtain rfl : ad168 = ad169 := (by injection e169)
               replace p169 := eq_true p169
               replace q169 := eq_true q169
               go_wp2
               repeat (go_quiet (fail); try go_wp2)
               go_roundg k2
               case measure => have := HK1.out; have := HK2.out; omega
               case rel => exact ⟨(wrap64 (x7_2 + 1)), (by first | rfl | (simp; done) | (simp [*]; done)), H', ⟨by have := HK1.out; have := HK2.out; omega⟩, ⟨by exact zR HO_4.out⟩, ⟨by exact zB <| BK162.out⟩, ⟨by repeat (first | (with_reducible first | exact HB.out | apply ba | apply bd | apply be | refine below_set ?_ GE162.out) | exact HB.out)⟩⟩
             ·rw [if_neg c27] at H
              exact absurd H (by simp)
            ·rw [if_neg c26] at H
             exact absurd H (by simp)
           ·rw [if_neg c25] at H
            exact absurd H (by simp)
          ·rw [if_neg c24] at H
           exact absurd H (by simp)
         ·rw [if_neg c23] at H
          have c23b0 : decide (x7_2 < x6_1) = false := decide_eq_false c23
          clear c23
          have H' := Aside0.mk H
          clear H
          go_wp2
          repeat (go_quiet (fail); try go_wp2)
          go_roundg k2
          case measure => have := HK1.out; have := HK2.out; omega
          case rel => exact ⟨(wrap64 (x6_1 + 1)), (by first | rfl | (simp; done) | (simp [*]; done)), H', ⟨by have := HK1.out; have := HK2.out; omega⟩, ⟨by exact zR HO_4.out⟩, ⟨by exact zB <| BK162.out⟩, ⟨by repeat (first | (with_reducible first | exact HB.out | apply ba | apply bd | apply be | refine below_set ?_ GE162.out) | exact HB.out)⟩⟩
      ·rw [if_neg c22] at H
       have c22b0 : decide (x6_1 < (t164.length : Int)) = false := decide_eq_false c22
       clear c22
       simp only [Option.some.injEq, Prod.mk.injEq] at H
       obtain ⟨rfl, rfl⟩ := H
       go_wp2
       repeat (go_quiet (fail); try go_wp2)
       go_ret2
       exact ⟨_, by first | rfl | (simp [errW_none, errW_some] <;> rfl) | (simp [*, errW_none, errW_some] <;> rfl), by exact zR HO_4.out, by repeat (first | (with_reducible first | exact HB.out | apply ba | apply bd | apply be | refine below_set ?_ GE162.out) | exact HB.out)⟩
  ·replace c8 := Bool.eq_false_iff.mpr c8
   subst c8
   have H1 : (some (([] : List (S25)), false)) = some (r1, r2) := by rw [if_neg (show ¬ (false = true) by decide)] at H; exact H
   clear H
   have H := H1
   clear H1
   simp only [Option.some.injEq, Prod.mk.injEq] at H
   obtain ⟨rfl, rfl⟩ := H
   go_enter Try.func32, Try.ntmps32
   go_wp2_with (first | ((with_reducible refine gate_dst (N := 1) rfl ?_); (try (refine gate_guard (by rfl) ?_; dsimp only)); refine box_event ?hg (N := 1) ?hd (cs := #[.int .i64 a0_0, .string a0_1, .int .i64 a0_2, .int .i64 a0_3, .slice A0_4 l0_4.length c0_4]) (t := 28) ?hr ?_; (case hd => rfl); (case hg => rfl); (case hr => first | (go_simp; done) | (go_simp; rfl)); intro gb162 hg w29 hbox hb; have n0_ := am (below_step (zL HB.out) hb); have n1_ := am (hbox); have n2_ := am (zS hg HB.out); have n3_ := am (zS hg HB.out); clear HB; have HB := n0_; have BK162 := n1_; have GW162 := n2_; have GE162 := n3_; clear n0_ n1_ n2_ n3_; clear hb hbox hg; obtain ⟨hcz30_0, hcz30_1, hcz30_2, hcz30_3, hcz30_4, hfz30_0, hfz30_1, hfz30_2, hfz30_3, hfz30_4⟩ := b5 BK162.out) | (go_at_call 42; (with_reducible refine (clusterlocksref07_Nodes.calls k a0_0 a0_1 a0_2 a0_3 _ _ l0_4 t163 _ ?side1 ?side2 A2.out).mono ?_); (case side1 => exact zC (Kd.C_below HR0_4.out HB.out)); (case side2 => exact HC0_4.out); rintro e w31 ⟨rfl, hb⟩; have n0_ := am (blk_below (zB BK162.out) hb); have n1_ := am (below_step (zL HB.out) hb); clear BK162 HB; have BK162 := n0_; have HB := n1_; clear n0_ n1_; (try clear hb); (try clear hb2); (try clear hk); (try clear hi); obtain ⟨hcz32_0, hcz32_1, hcz32_2, hcz32_3, hcz32_4, hfz32_0, hfz32_1, hfz32_2, hfz32_3, hfz32_4⟩ := b5 BK162.out) | (go_at_call 43; (refine (clusterlocksref07_Add.calls k (fun k_ => some k_ = (.slice none 0 0 : Value).ownBlock) (.slice none 0 0) ([] : List (S25)) a0_0 a0_1 a0_2 a0_3 _ _ l0_4 t164 false w _ ?side1 ?side2 ?side3 ?side4 A7.out).mono ?_); (case side1 => exact zL HB.out); (case side2 => exact Kd.R_nil _ _ _ _ _); (case side3 => exact Kd.C_kept_came k28_heap HR0_4.out (zL HB.out) (fun k_ hs_ => (fun e_ => by simp [Value.ownBlock] at e_) hs_)); (case side4 => exact HC0_4.out); rintro e w33 ⟨v165, rfl, _, hb, hkp⟩; have n0_ := am (blk_kept (zB BK162.out) hkp (fun hs_ => (fun e_ => by simp [Value.ownBlock] at e_) hs_)); have n1_ := am (hb); clear BK162 HB; have BK162 := n0_; have HB := n1_; clear n0_ n1_; (try clear hb); (try clear hkp)))
   repeat (go_quiet (first | ((with_reducible refine gate_dst (N := 1) rfl ?_); (try (refine gate_guard (by rfl) ?_; dsimp only)); refine box_event ?hg (N := 1) ?hd (cs := #[.int .i64 a0_0, .string a0_1, .int .i64 a0_2, .int .i64 a0_3, .slice A0_4 l0_4.length c0_4]) (t := 28) ?hr ?_; (case hd => rfl); (case hg => rfl); (case hr => first | (go_simp; done) | (go_simp; rfl)); intro gb162 hg w29 hbox hb; have n0_ := am (below_step (zL HB.out) hb); have n1_ := am (hbox); have n2_ := am (zS hg HB.out); have n3_ := am (zS hg HB.out); clear HB; have HB := n0_; have BK162 := n1_; have GW162 := n2_; have GE162 := n3_; clear n0_ n1_ n2_ n3_; clear hb hbox hg; obtain ⟨hcz30_0, hcz30_1, hcz30_2, hcz30_3, hcz30_4, hfz30_0, hfz30_1, hfz30_2, hfz30_3, hfz30_4⟩ := b5 BK162.out) | (go_at_call 42; (with_reducible refine (clusterlocksref07_Nodes.calls k a0_0 a0_1 a0_2 a0_3 _ _ l0_4 t163 _ ?side1 ?side2 A2.out).mono ?_); (case side1 => exact zC (Kd.C_below HR0_4.out HB.out)); (case side2 => exact HC0_4.out); rintro e w31 ⟨rfl, hb⟩; have n0_ := am (blk_below (zB BK162.out) hb); have n1_ := am (below_step (zL HB.out) hb); clear BK162 HB; have BK162 := n0_; have HB := n1_; clear n0_ n1_; (try clear hb); (try clear hb2); (try clear hk); (try clear hi); obtain ⟨hcz32_0, hcz32_1, hcz32_2, hcz32_3, hcz32_4, hfz32_0, hfz32_1, hfz32_2, hfz32_3, hfz32_4⟩ := b5 BK162.out) | (go_at_call 43; (refine (clusterlocksref07_Add.calls k (fun k_ => some k_ = (.slice none 0 0 : Value).ownBlock) (.slice none 0 0) ([] : List (S25)) a0_0 a0_1 a0_2 a0_3 _ _ l0_4 t164 false w _ ?side1 ?side2 ?side3 ?side4 A7.out).mono ?_); (case side1 => exact zL HB.out); (case side2 => exact Kd.R_nil _ _ _ _ _); (case side3 => exact Kd.C_kept_came k28_heap HR0_4.out (zL HB.out) (fun k_ hs_ => (fun e_ => by simp [Value.ownBlock] at e_) hs_)); (case side4 => exact HC0_4.out); rintro e w33 ⟨v165, rfl, _, hb, hkp⟩; have n0_ := am (blk_kept (zB BK162.out) hkp (fun hs_ => (fun e_ => by simp [Value.ownBlock] at e_) hs_)); have n1_ := am (hb); clear BK162 HB; have BK162 := n0_; have HB := n1_; clear n0_ n1_; (try clear hb); (try clear hkp))); try go_wp2_with (first | ((with_reducible refine gate_dst (N := 1) rfl ?_); (try (refine gate_guard (by rfl) ?_; dsimp only)); refine box_event ?hg (N := 1) ?hd (cs := #[.int .i64 a0_0, .string a0_1, .int .i64 a0_2, .int .i64 a0_3, .slice A0_4 l0_4.length c0_4]) (t := 28) ?hr ?_; (case hd => rfl); (case hg => rfl); (case hr => first | (go_simp; done) | (go_simp; rfl)); intro gb162 hg w29 hbox hb; have n0_ := am (below_step (zL HB.out) hb); have n1_ := am (hbox); have n2_ := am (zS hg HB.out); have n3_ := am (zS hg HB.out); clear HB; have HB := n0_; have BK162 := n1_; have GW162 := n2_; have GE162 := n3_; clear n0_ n1_ n2_ n3_; clear hb hbox hg; obtain ⟨hcz30_0, hcz30_1, hcz30_2, hcz30_3, hcz30_4, hfz30_0, hfz30_1, hfz30_2, hfz30_3, hfz30_4⟩ := b5 BK162.out) | (go_at_call 42; (with_reducible refine (clusterlocksref07_Nodes.calls k a0_0 a0_1 a0_2 a0_3 _ _ l0_4 t163 _ ?side1 ?side2 A2.out).mono ?_); (case side1 => exact zC (Kd.C_below HR0_4.out HB.out)); (case side2 => exact HC0_4.out); rintro e w31 ⟨rfl, hb⟩; have n0_ := am (blk_below (zB BK162.out) hb); have n1_ := am (below_step (zL HB.out) hb); clear BK162 HB; have BK162 := n0_; have HB := n1_; clear n0_ n1_; (try clear hb); (try clear hb2); (try clear hk); (try clear hi); obtain ⟨hcz32_0, hcz32_1, hcz32_2, hcz32_3, hcz32_4, hfz32_0, hfz32_1, hfz32_2, hfz32_3, hfz32_4⟩ := b5 BK162.out) | (go_at_call 43; (refine (clusterlocksref07_Add.calls k (fun k_ => some k_ = (.slice none 0 0 : Value).ownBlock) (.slice none 0 0) ([] : List (S25)) a0_0 a0_1 a0_2 a0_3 _ _ l0_4 t164 false w _ ?side1 ?side2 ?side3 ?side4 A7.out).mono ?_); (case side1 => exact zL HB.out); (case side2 => exact Kd.R_nil _ _ _ _ _); (case side3 => exact Kd.C_kept_came k28_heap HR0_4.out (zL HB.out) (fun k_ hs_ => (fun e_ => by simp [Value.ownBlock] at e_) hs_)); (case side4 => exact HC0_4.out); rintro e w33 ⟨v165, rfl, _, hb, hkp⟩; have n0_ := am (blk_kept (zB BK162.out) hkp (fun hs_ => (fun e_ => by simp [Value.ownBlock] at e_) hs_)); have n1_ := am (hb); clear BK162 HB; have BK162 := n0_; have HB := n1_; clear n0_ n1_; (try clear hb); (try clear hkp))))
   go_ret2
   exact ⟨_, by first | rfl | (simp [errW_none, errW_some] <;> rfl) | (simp [*, errW_none, errW_some] <;> rfl), by first | exact Kd.R_nil _ _ _ _ _ | exact Kd.N_nil _ _ _ _ _ | exact Kd.V_nil _ _ _ _ _ | exact Kd.Q_nil _ _ _ _ _ | exact Kd.S_nil _ _ _ _ _, by repeat (first | (with_reducible first | exact HB.out | apply ba | apply bd | apply be | refine below_set ?_ GE162.out) | exact HB.out)⟩

/-! ### clusterlocksref08_Atoms: function 13 -/
def clusterlocksref08_Atoms.f (k : Nat) (a0_0 : Int) (a0_1 : ByteArray) (a0_2 : Int) (a0_3 : Int) (l0_4 : List (S28)) : Option ((List (S25))) := (clusterlocksref07_Atoms.f k a0_0 a0_1 a0_2 a0_3 l0_4).bind fun bt171 => (some bt171.1)
theorem clusterlocksref08_Atoms.mono : ∀ a0 a1 a2 a3 a4 k, LeO (clusterlocksref08_Atoms.f k a0 a1 a2 a3 a4) (clusterlocksref08_Atoms.f (k + 1) a0 a1 a2 a3 a4) := by
 intro a0 a1 a2 a3 a4 k
 unfold clusterlocksref08_Atoms.f
 repeat' first
   | (with_reducible exact clusterlocksref07_Atoms.mono _ _ _ _ _ _)
   | (with_reducible exact LeO.refl _)
   | (with_reducible exact LeO.none _)
   | (with_reducible refine LeO.ite ?_ ?_)
   | (with_reducible refine LeO.bind ?_ (fun _ => ?_))
   | exact clusterlocksref07_Atoms.mono _ _ _ _ _ _
   | exact LeO.none _
   | refine LeO.ite ?_ ?_
   | refine LeO.bind ?_ (fun _ => ?_)
set_option maxHeartbeats 8000000 in
set_option maxRecDepth 100000 in
theorem clusterlocksref08_Atoms.calls (k : Nat) (a0_0 : Int) (a0_1 : ByteArray) (a0_2 : Int) (a0_3 : Int) (A0_4 : Option Addr) (c0_4 : Nat) (l0_4 : List (S28)) (r : List (S25)) (w : World) (hr0_4 : Kd.C k28 w A0_4 l0_4.length l0_4) (hc0_4 : l0_4.length ≤ c0_4) (h : clusterlocksref08_Atoms.f k a0_0 a0_1 a0_2 a0_3 l0_4 = some r) :
  Calls Try.prog 13 #[.agg #[.int .i64 a0_0, .string a0_1, .int .i64 a0_2, .int .i64 a0_3, .slice A0_4 l0_4.length c0_4]] w fun e w' => ∃ v0_ : Value, e = .returned (v0_) ∧ Kd.R k25 25 w' w.heap.size (fun _ => True) v0_ r ∧ Below w.heap.size w w' := by
 have hu28 := Try.underlying28
 have HR0_4 := Aside0.mk hr0_4
 have HC0_4 := Aside0.mk hc0_4
 clear hr0_4 hc0_4
 have HB := am (Below.refl w.heap.size w)
 have H : ((clusterlocksref07_Atoms.f k a0_0 a0_1 a0_2 a0_3 l0_4).bind fun bt171 => (some bt171.1)) = some r := h
 clear h
 replace H := Option.bind_eq_some_iff.mp H
 obtain ⟨⟨t171, t174⟩, A20, H⟩ := H
 replace H : (some t171) = some r := H
 have A2 := Aside0.mk A20
 clear A20
 obtain rfl := Option.some.inj H
 go_enter Try.func13, Try.ntmps13
 go_wp2_with (first | ((with_reducible refine gate_dst (N := 1) rfl ?_); refine box_event ?hg (N := 1) ?hd (cs := #[.int .i64 a0_0, .string a0_1, .int .i64 a0_2, .int .i64 a0_3, .slice A0_4 l0_4.length c0_4]) (t := 28) ?hr ?_; (case hd => rfl); (case hg => rfl); (case hr => first | (go_simp; done) | (go_simp; rfl)); intro gb170 hg w3 hbox hb; have n0_ := am (below_step (zL HB.out) hb); have n1_ := am (hbox); have n2_ := am (zS hg HB.out); have n3_ := am (zS hg HB.out); clear HB; have HB := n0_; have BK170 := n1_; have GW170 := n2_; have GE170 := n3_; clear n0_ n1_ n2_ n3_; clear hb hbox hg; obtain ⟨hcz4_0, hcz4_1, hcz4_2, hcz4_3, hcz4_4, hfz4_0, hfz4_1, hfz4_2, hfz4_3, hfz4_4⟩ := b5 BK170.out) | ((with_reducible refine gate_callee (f := 32) rfl ?_); refine goesL_ (some 7) rfl rfl Try.func32 (by kernel_rfl) rfl #[.agg #[.int .i64 a0_0, .string a0_1, .int .i64 a0_2, .int .i64 a0_3, .slice A0_4 l0_4.length c0_4]] rfl mp1 ?_; (with_reducible refine (clusterlocksref07_Atoms.calls k a0_0 a0_1 a0_2 a0_3 _ _ l0_4 t171 t174 _ ?side1 ?side2 A2.out).mono ?_); (case side1 => exact zC (Kd.C_below HR0_4.out HB.out)); (case side2 => exact HC0_4.out); rintro e w5 ⟨v172, rfl, ho0, hb⟩; refine ⟨_, rfl, ?_⟩; have n0_ := am (Kd.R_lower ho0 (below_size (zL HB.out))); have n1_ := am (blk_below (zB BK170.out) hb); have n2_ := am (below_step (zL HB.out) hb); clear BK170 HB; have HO173 := n0_; have BK170 := n1_; have HB := n2_; clear n0_ n1_ n2_; (try clear hb); (try clear hb2); (try clear hk); (try clear hi); (try clear ho0)))
 go_ret
 exact ⟨_, by first | rfl | (simp [errW_none, errW_some] <;> rfl) | (simp [*, errW_none, errW_some] <;> rfl), by exact zR HO173.out, by repeat (first | (with_reducible first | exact HB.out | apply ba | apply bd | apply be | refine below_set ?_ GE170.out) | exact HB.out)⟩

/-! ### formula_index_has: function 44 -/
def formula_index_has.l0 : Nat → List (S25) → Int → Int → List (S25) → List Bool → ByteArray → Int → Int → Option (Bool)
 | 0, _, _, _, _, _, _, _, _ => none
 | k + 1, x8, x9, x10, x176000, x176001, x177000, x177001, x177002 => if x10 < x9 then (if 0 ≤ x10 then (if x10 < (x8.length : Int) then (if ((((rd_T25 x8 x10).f0).toList) == x177000.toList && ((((rd_T25 x8 x10).f1.f0) == x177001 && (((rd_T25 x8 x10).f1.f1) == x177002)))) = true then (if x10 < (x176001.length : Int) then (some (rdOf false x176001 x10)) else (some false)) else (formula_index_has.l0 k x8 x9 (wrap64 (x10 + 1)) x176000 x176001 x177000 x177001 x177002)) else (none)) else (none)) else (some false)
def formula_index_has.f (k : Nat) (l0_0 : List (S25)) (l0_1 : List Bool) (a1_0 : ByteArray) (a1_1 : Int) (a1_2 : Int) : Option (Bool) := formula_index_has.l0 k l0_0 (l0_0.length : Int) 0 l0_0 l0_1 a1_0 a1_1 a1_2
theorem formula_index_has.mono_l : ∀ k, (∀ y0 y1 y2 y3 y4 y5 y6 y7, LeO (formula_index_has.l0 k y0 y1 y2 y3 y4 y5 y6 y7) (formula_index_has.l0 (k + 1) y0 y1 y2 y3 y4 y5 y6 y7))
 | 0 => fun _ _ _ _ _ _ _ _ r h => by simp [formula_index_has.l0] at h
 | k + 1 => by
  have ih0 := formula_index_has.mono_l k
  ·intro y0 y1 y2 y3 y4 y5 y6 y7
   unfold formula_index_has.l0
   repeat' first
   | (with_reducible exact ih0 _ _ _ _ _ _ _ _)
   | (with_reducible exact LeO.refl _)
   | (with_reducible exact LeO.none _)
   | (with_reducible refine LeO.ite ?_ ?_)
   | (with_reducible refine LeO.bind ?_ (fun _ => ?_))
   | exact ih0 _ _ _ _ _ _ _ _
   | exact LeO.none _
   | refine LeO.ite ?_ ?_
   | refine LeO.bind ?_ (fun _ => ?_)
theorem formula_index_has.mono : ∀ a0 a1 a2 a3 a4 k, LeO (formula_index_has.f k a0 a1 a2 a3 a4) (formula_index_has.f (k + 1) a0 a1 a2 a3 a4) := by
 intro a0 a1 a2 a3 a4 k
 have ih0 := formula_index_has.mono_l k
 unfold formula_index_has.f
 repeat' first
   | (with_reducible exact ih0 _ _ _ _ _ _ _ _)
   | (with_reducible exact LeO.refl _)
   | (with_reducible exact LeO.none _)
   | (with_reducible refine LeO.ite ?_ ?_)
   | (with_reducible refine LeO.bind ?_ (fun _ => ?_))
   | exact ih0 _ _ _ _ _ _ _ _
   | exact LeO.none _
   | refine LeO.ite ?_ ?_
   | refine LeO.bind ?_ (fun _ => ?_)
set_option maxHeartbeats 8000000 in
set_option maxRecDepth 100000 in
theorem formula_index_has.calls (k : Nat) (A0_0 : Option Addr) (c0_0 : Nat) (l0_0 : List (S25)) (A0_1 : Option Addr) (c0_1 : Nat) (l0_1 : List Bool) (a1_0 : ByteArray) (a1_1 : Int) (a1_2 : Int) (r : Bool) (w : World) (hr0_0 : Kd.C k25 w A0_0 l0_0.length l0_0) (hc0_0 : l0_0.length ≤ c0_0) (hr0_1 : Kd.C Kd.bool w A0_1 l0_1.length l0_1) (hc0_1 : l0_1.length ≤ c0_1) (h : formula_index_has.f k l0_0 l0_1 a1_0 a1_1 a1_2 = some r) :
  Calls Try.prog 44 #[.agg #[.slice A0_0 l0_0.length c0_0, .slice A0_1 l0_1.length c0_1], .agg #[.string a1_0, .int .i64 a1_1, .int .i64 a1_2]] w fun e w' => e = .returned (.bool r) ∧ Below w.heap.size w w' := by
 have hu70 := Try.underlying70
 have hu25 := Try.underlying25
 have HR0_0 := Aside0.mk hr0_0
 have HC0_0 := Aside0.mk hc0_0
 clear hr0_0 hc0_0
 have HR0_1 := Aside0.mk hr0_1
 have HC0_1 := Aside0.mk hc0_1
 clear hr0_1 hc0_1
 have HB := am (Below.refl w.heap.size w)
 have H : (formula_index_has.l0 k l0_0 (l0_0.length : Int) 0 l0_0 l0_1 a1_0 a1_1 a1_2) = some r := h
 clear h
 have H' := Aside0.mk H
 clear H
 go_enter Try.func44, Try.ntmps44
 go_wp2_with (first | ((with_reducible refine gate_dst (N := 2) rfl ?_); refine box_event ?hg (N := 2) ?hd (cs := #[.slice A0_0 l0_0.length c0_0, .slice A0_1 l0_1.length c0_1]) (t := 70) ?hr ?_; (case hd => rfl); (case hg => rfl); (case hr => first | (go_simp; done) | (go_simp; rfl)); intro gb175 hg w3 hbox hb; have n0_ := am (below_step (zL HB.out) hb); have n1_ := am (hbox); have n2_ := am (zS hg HB.out); have n3_ := am (zS hg HB.out); clear HB; have HB := n0_; have BK175 := n1_; have GW175 := n2_; have GE175 := n3_; clear n0_ n1_ n2_ n3_; clear hb hbox hg) | ((with_reducible refine gate_dst (N := 3) rfl ?_); refine box_event ?hg (N := 3) ?hd (cs := #[.string a1_0, .int .i64 a1_1, .int .i64 a1_2]) (t := 25) ?hr ?_; (case hd => rfl); (case hg => rfl); (case hr => first | (go_simp; done) | (go_simp; rfl)); intro gb176 hg w4 hbox hb; have n0_ := am (blk_below (zB BK175.out) hb); have n1_ := am (below_step (zL HB.out) hb); have n2_ := am (hbox); have n3_ := am (zS hg HB.out); have n4_ := am (zS hg HB.out); have n5_ := am (zN hg BK175.out); have n6_ := am (zM hg BK175.out); clear BK175 HB; have BK175 := n0_; have HB := n1_; have BK176 := n2_; have GW176 := n3_; have GE176 := n4_; have NB175_176 := n5_; have NB176_175 := n6_; clear n0_ n1_ n2_ n3_ n4_ n5_ n6_; clear hb hbox hg; have hnb5 := NB175_176.out; have hnc5 := NB176_175.out; obtain ⟨hcz6_0, hcz6_1, hfz6_0, hfz6_1⟩ := b2 BK175.out))
 go_loopg [10] k (fun kq v10 w' => ∃ (x10_1 : Int), v10 = .int .i64 x10_1 ∧ Aside0 (formula_index_has.l0 kq l0_0 (l0_0.length : Int) x10_1 l0_0 l0_1 a1_0 a1_1 a1_2 = some r) ∧ Aside0 (kq ≤ k) ∧ Aside0 (w'.heap[gb175]? = some (.cells #[(.slice A0_0 l0_0.length c0_0), (.slice A0_1 l0_1.length c0_1)] 70 (0, 0))) ∧ Aside0 (w'.heap[gb176]? = some (.cells #[.string a1_0, .int .i64 a1_1, .int .i64 a1_2] 25 (0, 0))) ∧ Aside0 (Below w.heap.size w w'))
 case atStart => exact ⟨(0), (by first | rfl | (simp; done) | (simp [*]; done)), H', ⟨Nat.le_refl _⟩, ⟨by exact zB <| BK175.out⟩, ⟨by exact zB <| BK176.out⟩, ⟨by repeat (first | (with_reducible first | exact HB.out | apply ba | apply bd | apply be | refine below_set ?_ GE175.out | refine below_set ?_ GE176.out) | exact HB.out)⟩⟩
 case round =>
  clear H'
  try clear p2
  try clear c4
  try clear c5
  try clear hcz6_0
  try clear hcz6_1
  try clear hfz6_0
  try clear hfz6_1
  obtain ⟨x10_1, rfl, HA, HK1, BK175, BK176, HB⟩ := hrel
  cases gk with
  | zero => exact absurd HA.out (by simp [formula_index_has.l0])
  | succ k1 =>
   have H := HA.out
   clear HA
   simp only [formula_index_has.l0] at H
   by_cases c7 : x10_1 < (l0_0.length : Int)
   ·rw [if_pos c7] at H
    have c7b0 : decide (x10_1 < (l0_0.length : Int)) = true := decide_eq_true c7
    clear c7
    by_cases c8 : 0 ≤ x10_1
    ·rw [if_pos c8] at H
     have c8b0 : decide (0 ≤ x10_1) = true := decide_eq_true c8
     clear c8
     by_cases c9 : x10_1 < (l0_0.length : Int)
     ·rw [if_pos c9] at H
      have c9b0 : decide (x10_1 < (l0_0.length : Int)) = true := decide_eq_true c9
      clear c9
      by_cases c10 : ((((rd_T25 l0_0 x10_1).f0).toList) == a1_0.toList && ((((rd_T25 l0_0 x10_1).f1.f0) == a1_1 && (((rd_T25 l0_0 x10_1).f1.f1) == a1_2)))) = true
      ·rw [if_pos c10] at H
       have c10b0 : ((((rd_T25 l0_0 x10_1).f0).toList) == a1_0.toList && ((((rd_T25 l0_0 x10_1).f1.f0) == a1_1 && (((rd_T25 l0_0 x10_1).f1.f1) == a1_2)))) = true := c10
       (try (have c10b1 : decide ((((rd_T25 l0_0 x10_1).f0).toList) = a1_0.toList && ((((rd_T25 l0_0 x10_1).f1.f0) == a1_1 && (((rd_T25 l0_0 x10_1).f1.f1) == a1_2)))) = true := by simpa using c10))
       (try (have c10b2 : ((((rd_T25 l0_0 x10_1).f0).toList) == a1_0.toList && ((((rd_T25 l0_0 x10_1).f1.f0) == a1_1 && (((rd_T25 l0_0 x10_1).f1.f1) == a1_2)))) = true := by simpa using c10))
       clear c10
       by_cases c11 : x10_1 < (l0_1.length : Int)
       ·rw [if_pos c11] at H
        have c11b0 : decide (x10_1 < (l0_1.length : Int)) = true := decide_eq_true c11
        clear c11
        obtain rfl := Option.some.inj H
        have p177 : 0 ≤ (x10_1 : Int) := of_decide_eq_true (by first | (with_reducible assumption) | assumption)
        have q177 : x10_1 < (l0_0.length : Int) := of_decide_eq_true (by first | (with_reducible assumption) | assumption)
        obtain ⟨ad177, e177, hx177_0, hx177_1, hx177_2⟩ := at_T25 HR0_0.out x10_1 p177 q177
        cases e177
        replace hx177_0 := (HB.out.cell (World.block_lt_of_cell? w _ hx177_0)).trans hx177_0
        replace hx177_1 := (HB.out.cell (World.block_lt_of_cell? w _ hx177_1)).trans hx177_1
        replace hx177_2 := (HB.out.cell (World.block_lt_of_cell? w _ hx177_2)).trans hx177_2
        replace p177 := eq_true p177
        replace q177 := eq_true q177
        go_wp2_with (first | ((with_reducible refine gate_dst (N := 6) rfl ?_); refine box_event ?hg (N := 6) ?hd (cs := #[.string (⟨#[]⟩ : ByteArray), .int .i64 0, .int .i64 0]) (t := 25) ?hr ?_; (case hd => rfl); (case hg => rfl); (case hr => first | (go_simp; done) | (go_simp; rfl)); intro gb178 hg w12 hbox hb; have n0_ := am (blk_below (zB BK175.out) hb); have n1_ := am (blk_below (zB BK176.out) hb); have n2_ := am (below_step (zL HB.out) hb); have n3_ := am (hbox); have n4_ := am (zS hg HB.out); have n5_ := am (zS hg HB.out); have n6_ := am (zN hg BK175.out); have n7_ := am (zM hg BK175.out); have n8_ := am (zN hg BK176.out); have n9_ := am (zM hg BK176.out); clear BK175 BK176 HB; have BK175 := n0_; have BK176 := n1_; have HB := n2_; have BK178 := n3_; have GW178 := n4_; have GE178 := n5_; have NB175_178 := n6_; have NB178_175 := n7_; have NB176_178 := n8_; have NB178_176 := n9_; clear n0_ n1_ n2_ n3_ n4_ n5_ n6_ n7_ n8_ n9_; clear hb hbox hg; have hnb13 := NB178_175.out; have hnc13 := NB175_178.out; have hnb14 := NB178_176.out; have hnc14 := NB176_178.out; obtain ⟨hcz15_0, hcz15_1, hcz15_2, hfz15_0, hfz15_1, hfz15_2⟩ := b3 BK178.out) | ((with_reducible refine gate_store (t := 25) (p := 6) rfl ?_); refine store_event (t := 25) (p := 6) (v := ?vo_w16) (w1 := (((w12.setCell ⟨gb178, 0, none⟩ (.string ((rd_T25 l0_0 x10_1).f0))).setCell ⟨gb178, 1, none⟩ (.int .i64 ((rd_T25 l0_0 x10_1).f1.f0))).setCell ⟨gb178, 2, none⟩ (.int .i64 ((rd_T25 l0_0 x10_1).f1.f1)))) ?hg ?ho ?hn ?hr ?_; (case ho => rfl); (case hg => rfl); (case hn => rfl); (case hr => first | (go_simp; done) | (go_simp; rfl)); intro w16 hw; have n0_ : Aside0 (w16.heap[gb175]? = some (.cells #[.slice (some ad177) l0_0.length c0_0, .slice A0_1 l0_1.length c0_1] 70 (0, 0))) := ⟨(by rw [hw]; exact (by refine blk_far ?_ NB175_178.out _; refine blk_far ?_ NB175_178.out _; refine blk_far ?_ NB175_178.out _; exact zB <| BK175.out))⟩; have n1_ : Aside0 (w16.heap[gb176]? = some (.cells #[.string a1_0, .int .i64 a1_1, .int .i64 a1_2] 25 (0, 0))) := ⟨(by rw [hw]; exact (by refine blk_far ?_ NB176_178.out _; refine blk_far ?_ NB176_178.out _; refine blk_far ?_ NB176_178.out _; exact zB <| BK176.out))⟩; have n2_ : Aside0 (w16.heap[gb178]? = some (.cells #[.string ((rd_T25 l0_0 x10_1).f0), .int .i64 ((rd_T25 l0_0 x10_1).f1.f0), .int .i64 ((rd_T25 l0_0 x10_1).f1.f1)] 25 (0, 0))) := ⟨(by rw [hw]; exact (by refine blk_put (cs := #[.string ((rd_T25 l0_0 x10_1).f0), .int .i64 ((rd_T25 l0_0 x10_1).f1.f0), .int .i64 0]) ?_ 2 _ rfl; refine blk_put (cs := #[.string ((rd_T25 l0_0 x10_1).f0), .int .i64 0, .int .i64 0]) ?_ 1 _ rfl; refine blk_put (cs := #[.string (⟨#[]⟩ : ByteArray), .int .i64 0, .int .i64 0]) ?_ 0 _ rfl; exact zB <| BK178.out))⟩; have n3_ : Aside0 (Below w.heap.size w w16) := ⟨(by rw [hw]; exact (by repeat (first | (with_reducible first | exact HB.out | apply ba | apply bd | apply be | refine below_set ?_ GE175.out | refine below_set ?_ GE176.out | refine below_set ?_ GE178.out) | exact HB.out)))⟩; clear hw BK175 BK176 BK178 HB; have BK175 := n0_; have BK176 := n1_; have BK178 := n2_; have HB := n3_; clear n0_ n1_ n2_ n3_; obtain ⟨hcz17_0, hcz17_1, hcz17_2, hfz17_0, hfz17_1, hfz17_2⟩ := b3 BK178.out; have hnb18 := NB176_175.out; have hnc18 := NB175_176.out; obtain ⟨hcz19_0, hcz19_1, hcz19_2, hfz19_0, hfz19_1, hfz19_2⟩ := b3 BK176.out; obtain ⟨hcz20_0, hcz20_1, hfz20_0, hfz20_1⟩ := b2 BK175.out; have p179 : 0 ≤ (x10_1 : Int) := of_decide_eq_true (by first | (with_reducible assumption) | assumption); have q179 : x10_1 < (l0_1.length : Int) := of_decide_eq_true (by first | (with_reducible assumption) | assumption); obtain ⟨ad179, e179, hx179_0⟩ := Kd.at_bool HR0_1.out x10_1 p179 q179; cases e179; replace hx179_0 := (HB.out.cell (World.block_lt_of_cell? w _ hx179_0)).trans hx179_0; replace p179 := eq_true p179; replace q179 := eq_true q179))
        go_ret
        exact ⟨by first | rfl | (simp [errW_none, errW_some] <;> rfl) | (simp [*, errW_none, errW_some] <;> rfl), by repeat (first | (with_reducible first | exact HB.out | apply ba | apply bd | apply be | refine below_set ?_ GE175.out | refine below_set ?_ GE176.out | refine below_set ?_ GE178.out) | exact HB.out)⟩
       ·rw [if_neg c11] at H
        have c11b0 : decide (x10_1 < (l0_1.length : Int)) = false := decide_eq_false c11
        clear c11
        obtain rfl := Option.some.inj H
        have p177 : 0 ≤ (x10_1 : Int) := of_decide_eq_true (by first | (with_reducible assumption) | assumption)
        have q177 : x10_1 < (l0_0.length : Int) := of_decide_eq_true (by first | (with_reducible assumption) | assumption)
        obtain ⟨ad177, e177, hx177_0, hx177_1, hx177_2⟩ := at_T25 HR0_0.out x10_1 p177 q177
        cases e177
        replace hx177_0 := (HB.out.cell (World.block_lt_of_cell? w _ hx177_0)).trans hx177_0
        replace hx177_1 := (HB.out.cell (World.block_lt_of_cell? w _ hx177_1)).trans hx177_1
        replace hx177_2 := (HB.out.cell (World.block_lt_of_cell? w _ hx177_2)).trans hx177_2
        replace p177 := eq_true p177
        replace q177 := eq_true q177
        go_wp2_with (first | ((with_reducible refine gate_dst (N := 6) rfl ?_); refine box_event ?hg (N := 6) ?hd (cs := #[.string (⟨#[]⟩ : ByteArray), .int .i64 0, .int .i64 0]) (t := 25) ?hr ?_; (case hd => rfl); (case hg => rfl); (case hr => first | (go_simp; done) | (go_simp; rfl)); intro gb178 hg w21 hbox hb; have n0_ := am (blk_below (zB BK175.out) hb); have n1_ := am (blk_below (zB BK176.out) hb); have n2_ := am (below_step (zL HB.out) hb); have n3_ := am (hbox); have n4_ := am (zS hg HB.out); have n5_ := am (zS hg HB.out); have n6_ := am (zN hg BK175.out); have n7_ := am (zM hg BK175.out); have n8_ := am (zN hg BK176.out); have n9_ := am (zM hg BK176.out); clear BK175 BK176 HB; have BK175 := n0_; have BK176 := n1_; have HB := n2_; have BK178 := n3_; have GW178 := n4_; have GE178 := n5_; have NB175_178 := n6_; have NB178_175 := n7_; have NB176_178 := n8_; have NB178_176 := n9_; clear n0_ n1_ n2_ n3_ n4_ n5_ n6_ n7_ n8_ n9_; clear hb hbox hg; have hnb22 := NB178_175.out; have hnc22 := NB175_178.out; have hnb23 := NB178_176.out; have hnc23 := NB176_178.out; obtain ⟨hcz24_0, hcz24_1, hcz24_2, hfz24_0, hfz24_1, hfz24_2⟩ := b3 BK178.out) | ((with_reducible refine gate_store (t := 25) (p := 6) rfl ?_); refine store_event (t := 25) (p := 6) (v := ?vo_w25) (w1 := (((w21.setCell ⟨gb178, 0, none⟩ (.string ((rd_T25 l0_0 x10_1).f0))).setCell ⟨gb178, 1, none⟩ (.int .i64 ((rd_T25 l0_0 x10_1).f1.f0))).setCell ⟨gb178, 2, none⟩ (.int .i64 ((rd_T25 l0_0 x10_1).f1.f1)))) ?hg ?ho ?hn ?hr ?_; (case ho => rfl); (case hg => rfl); (case hn => rfl); (case hr => first | (go_simp; done) | (go_simp; rfl)); intro w25 hw; have n0_ : Aside0 (w25.heap[gb175]? = some (.cells #[.slice (some ad177) l0_0.length c0_0, .slice A0_1 l0_1.length c0_1] 70 (0, 0))) := ⟨(by rw [hw]; exact (by refine blk_far ?_ NB175_178.out _; refine blk_far ?_ NB175_178.out _; refine blk_far ?_ NB175_178.out _; exact zB <| BK175.out))⟩; have n1_ : Aside0 (w25.heap[gb176]? = some (.cells #[.string a1_0, .int .i64 a1_1, .int .i64 a1_2] 25 (0, 0))) := ⟨(by rw [hw]; exact (by refine blk_far ?_ NB176_178.out _; refine blk_far ?_ NB176_178.out _; refine blk_far ?_ NB176_178.out _; exact zB <| BK176.out))⟩; have n2_ : Aside0 (w25.heap[gb178]? = some (.cells #[.string ((rd_T25 l0_0 x10_1).f0), .int .i64 ((rd_T25 l0_0 x10_1).f1.f0), .int .i64 ((rd_T25 l0_0 x10_1).f1.f1)] 25 (0, 0))) := ⟨(by rw [hw]; exact (by refine blk_put (cs := #[.string ((rd_T25 l0_0 x10_1).f0), .int .i64 ((rd_T25 l0_0 x10_1).f1.f0), .int .i64 0]) ?_ 2 _ rfl; refine blk_put (cs := #[.string ((rd_T25 l0_0 x10_1).f0), .int .i64 0, .int .i64 0]) ?_ 1 _ rfl; refine blk_put (cs := #[.string (⟨#[]⟩ : ByteArray), .int .i64 0, .int .i64 0]) ?_ 0 _ rfl; exact zB <| BK178.out))⟩; have n3_ : Aside0 (Below w.heap.size w w25) := ⟨(by rw [hw]; exact (by repeat (first | (with_reducible first | exact HB.out | apply ba | apply bd | apply be | refine below_set ?_ GE175.out | refine below_set ?_ GE176.out | refine below_set ?_ GE178.out) | exact HB.out)))⟩; clear hw BK175 BK176 BK178 HB; have BK175 := n0_; have BK176 := n1_; have BK178 := n2_; have HB := n3_; clear n0_ n1_ n2_ n3_; obtain ⟨hcz26_0, hcz26_1, hcz26_2, hfz26_0, hfz26_1, hfz26_2⟩ := b3 BK178.out; have hnb27 := NB176_175.out; have hnc27 := NB175_176.out; obtain ⟨hcz28_0, hcz28_1, hcz28_2, hfz28_0, hfz28_1, hfz28_2⟩ := b3 BK176.out; obtain ⟨hcz29_0, hcz29_1, hfz29_0, hfz29_1⟩ := b2 BK175.out))
        go_ret
        exact ⟨by first | rfl | (simp [errW_none, errW_some] <;> rfl) | (simp [*, errW_none, errW_some] <;> rfl), by repeat (first | (with_reducible first | exact HB.out | apply ba | apply bd | apply be | refine below_set ?_ GE175.out | refine below_set ?_ GE176.out | refine below_set ?_ GE178.out) | exact HB.out)⟩
      ·rw [if_neg c10] at H
       have c10b0 : ((((rd_T25 l0_0 x10_1).f0).toList) == a1_0.toList && ((((rd_T25 l0_0 x10_1).f1.f0) == a1_1 && (((rd_T25 l0_0 x10_1).f1.f1) == a1_2)))) = false := by simpa using c10
       (try (have c10b1 : decide ((((rd_T25 l0_0 x10_1).f0).toList) = a1_0.toList && ((((rd_T25 l0_0 x10_1).f1.f0) == a1_1 && (((rd_T25 l0_0 x10_1).f1.f1) == a1_2)))) = false := by simpa using c10))
       (try (have c10b2 : ((((rd_T25 l0_0 x10_1).f0).toList) == a1_0.toList && ((((rd_T25 l0_0 x10_1).f1.f0) == a1_1 && (((rd_T25 l0_0 x10_1).f1.f1) == a1_2)))) = false := by simpa using c10))
       (try (have c10b3 : ¬ ((((rd_T25 l0_0 x10_1).f0).toList) = a1_0.toList && ((((rd_T25 l0_0 x10_1).f1.f0) == a1_1 && (((rd_T25 l0_0 x10_1).f1.f1) == a1_2)))) := by simpa using c10))
       clear c10
       have H' := Aside0.mk H
       clear H
       have p177 : 0 ≤ (x10_1 : Int) := of_decide_eq_true (by first | (with_reducible assumption) | assumption)
       have q177 : x10_1 < (l0_0.length : Int) := of_decide_eq_true (by first | (with_reducible assumption) | assumption)
       obtain ⟨ad177, e177, hx177_0, hx177_1, hx177_2⟩ := at_T25 HR0_0.out x10_1 p177 q177
       cases e177
       replace hx177_0 := (HB.out.cell (World.block_lt_of_cell? w _ hx177_0)).trans hx177_0
       replace hx177_1 := (HB.out.cell (World.block_lt_of_cell? w _ hx177_1)).trans hx177_1
       replace hx177_2 := (HB.out.cell (World.block_lt_of_cell? w _ hx177_2)).trans hx177_2
       replace p177 := eq_true p177
       replace q177 := eq_true q177
       go_wp2_with (first | ((with_reducible refine gate_dst (N := 6) rfl ?_); refine box_event ?hg (N := 6) ?hd (cs := #[.string (⟨#[]⟩ : ByteArray), .int .i64 0, .int .i64 0]) (t := 25) ?hr ?_; (case hd => rfl); (case hg => rfl); (case hr => first | (go_simp; done) | (go_simp; rfl)); intro gb178 hg w30 hbox hb; have n0_ := am (blk_below (zB BK175.out) hb); have n1_ := am (blk_below (zB BK176.out) hb); have n2_ := am (below_step (zL HB.out) hb); have n3_ := am (hbox); have n4_ := am (zS hg HB.out); have n5_ := am (zS hg HB.out); have n6_ := am (zN hg BK175.out); have n7_ := am (zM hg BK175.out); have n8_ := am (zN hg BK176.out); have n9_ := am (zM hg BK176.out); clear BK175 BK176 HB; have BK175 := n0_; have BK176 := n1_; have HB := n2_; have BK178 := n3_; have GW178 := n4_; have GE178 := n5_; have NB175_178 := n6_; have NB178_175 := n7_; have NB176_178 := n8_; have NB178_176 := n9_; clear n0_ n1_ n2_ n3_ n4_ n5_ n6_ n7_ n8_ n9_; clear hb hbox hg; have hnb31 := NB178_175.out; have hnc31 := NB175_178.out; have hnb32 := NB178_176.out; have hnc32 := NB176_178.out; obtain ⟨hcz33_0, hcz33_1, hcz33_2, hfz33_0, hfz33_1, hfz33_2⟩ := b3 BK178.out) | ((with_reducible refine gate_store (t := 25) (p := 6) rfl ?_); refine store_event (t := 25) (p := 6) (v := ?vo_w34) (w1 := (((w30.setCell ⟨gb178, 0, none⟩ (.string ((rd_T25 l0_0 x10_1).f0))).setCell ⟨gb178, 1, none⟩ (.int .i64 ((rd_T25 l0_0 x10_1).f1.f0))).setCell ⟨gb178, 2, none⟩ (.int .i64 ((rd_T25 l0_0 x10_1).f1.f1)))) ?hg ?ho ?hn ?hr ?_; (case ho => rfl); (case hg => rfl); (case hn => rfl); (case hr => first | (go_simp; done) | (go_simp; rfl)); intro w34 hw; have n0_ : Aside0 (w34.heap[gb175]? = some (.cells #[.slice (some ad177) l0_0.length c0_0, .slice A0_1 l0_1.length c0_1] 70 (0, 0))) := ⟨(by rw [hw]; exact (by refine blk_far ?_ NB175_178.out _; refine blk_far ?_ NB175_178.out _; refine blk_far ?_ NB175_178.out _; exact zB <| BK175.out))⟩; have n1_ : Aside0 (w34.heap[gb176]? = some (.cells #[.string a1_0, .int .i64 a1_1, .int .i64 a1_2] 25 (0, 0))) := ⟨(by rw [hw]; exact (by refine blk_far ?_ NB176_178.out _; refine blk_far ?_ NB176_178.out _; refine blk_far ?_ NB176_178.out _; exact zB <| BK176.out))⟩; have n2_ : Aside0 (w34.heap[gb178]? = some (.cells #[.string ((rd_T25 l0_0 x10_1).f0), .int .i64 ((rd_T25 l0_0 x10_1).f1.f0), .int .i64 ((rd_T25 l0_0 x10_1).f1.f1)] 25 (0, 0))) := ⟨(by rw [hw]; exact (by refine blk_put (cs := #[.string ((rd_T25 l0_0 x10_1).f0), .int .i64 ((rd_T25 l0_0 x10_1).f1.f0), .int .i64 0]) ?_ 2 _ rfl; refine blk_put (cs := #[.string ((rd_T25 l0_0 x10_1).f0), .int .i64 0, .int .i64 0]) ?_ 1 _ rfl; refine blk_put (cs := #[.string (⟨#[]⟩ : ByteArray), .int .i64 0, .int .i64 0]) ?_ 0 _ rfl; exact zB <| BK178.out))⟩; have n3_ : Aside0 (Below w.heap.size w w34) := ⟨(by rw [hw]; exact (by repeat (first | (with_reducible first | exact HB.out | apply ba | apply bd | apply be | refine below_set ?_ GE175.out | refine below_set ?_ GE176.out | refine below_set ?_ GE178.out) | exact HB.out)))⟩; clear hw BK175 BK176 BK178 HB; have BK175 := n0_; have BK176 := n1_; have BK178 := n2_; have HB := n3_; clear n0_ n1_ n2_ n3_; obtain ⟨hcz35_0, hcz35_1, hcz35_2, hfz35_0, hfz35_1, hfz35_2⟩ := b3 BK178.out; have hnb36 := NB176_175.out; have hnc36 := NB175_176.out; obtain ⟨hcz37_0, hcz37_1, hcz37_2, hfz37_0, hfz37_1, hfz37_2⟩ := b3 BK176.out))
       go_roundg k1
       case measure => have := HK1.out; omega
       case rel => exact ⟨(wrap64 (x10_1 + 1)), (by first | rfl | (simp; done) | (simp [*]; done)), H', ⟨by have := HK1.out; omega⟩, ⟨by exact zB <| BK175.out⟩, ⟨by exact zB <| BK176.out⟩, ⟨by repeat (first | (with_reducible first | exact HB.out | apply ba | apply bd | apply be | refine below_set ?_ GE175.out | refine below_set ?_ GE176.out | refine below_set ?_ GE178.out) | exact HB.out)⟩⟩
     ·rw [if_neg c9] at H
      exact absurd H (by simp)
    ·rw [if_neg c8] at H
     exact absurd H (by simp)
   ·rw [if_neg c7] at H
    have c7b0 : decide (x10_1 < (l0_0.length : Int)) = false := decide_eq_false c7
    clear c7
    obtain rfl := Option.some.inj H
    go_wp2
    go_ret
    exact ⟨by first | rfl | (simp [errW_none, errW_some] <;> rfl) | (simp [*, errW_none, errW_some] <;> rfl), by repeat (first | (with_reducible first | exact HB.out | apply ba | apply bd | apply be | refine below_set ?_ GE175.out | refine below_set ?_ GE176.out) | exact HB.out)⟩

/-! ### formula_value: function 45 -/
mutual
def formula_value.l0 : Nat → Int → List (S28) → Int → Int → List (S25) → List Bool → Int → ByteArray → Int → Int → List (S28) → Option (Bool)
 | 0, _, _, _, _, _, _, _, _, _, _, _ => none
 | k + 1, x5, x16, x17, x18, x900, x901, x181000, x181001, x181002, x181003, x181004 => if x18 < x17 then (if 0 ≤ x18 then (if x18 < (x16.length : Int) then ((formula_value.f k ((rd_T28 x16 x18).f0) ((rd_T28 x16 x18).f1.f0) ((rd_T28 x16 x18).f1.f1.f0) ((rd_T28 x16 x18).f1.f1.f1) ((rd_T28 x16 x18).f2) x900 x901).bind fun t184 => (if t184 = true then (formula_value.l0 k (wrap64 (x5 + 1)) x16 x17 (wrap64 (x18 + 1)) x900 x901 x181000 x181001 x181002 x181003 x181004) else (formula_value.l0 k x5 x16 x17 (wrap64 (x18 + 1)) x900 x901 x181000 x181001 x181002 x181003 x181004))) else (none)) else (none)) else (some (decide (x5 ≥ x181000)))
def formula_value.f : Nat → Int → ByteArray → Int → Int → List (S28) → List (S25) → List Bool → Option (Bool)
 | 0, _, _, _, _, _, _, _ => none
 | k + 1, a0_0, a0_1, a0_2, a0_3, l0_4, l1_0, l1_1 => if a0_0 = 0 then ((formula_index_has.f k l1_0 l1_1 a0_1 a0_2 a0_3).bind fun t181 => (some t181)) else (formula_value.l0 k 0 l0_4 (l0_4.length : Int) 0 l1_0 l1_1 a0_0 a0_1 a0_2 a0_3 l0_4)
end
theorem formula_value.mono_l : ∀ k, (∀ y0 y1 y2 y3 y4 y5 y6, LeO (formula_value.f k y0 y1 y2 y3 y4 y5 y6) (formula_value.f (k + 1) y0 y1 y2 y3 y4 y5 y6)) ∧ (∀ y0 y1 y2 y3 y4 y5 y6 y7 y8 y9 y10, LeO (formula_value.l0 k y0 y1 y2 y3 y4 y5 y6 y7 y8 y9 y10) (formula_value.l0 (k + 1) y0 y1 y2 y3 y4 y5 y6 y7 y8 y9 y10))
 | 0 => ⟨fun _ _ _ _ _ _ _ r h => by simp [formula_value.f] at h, fun _ _ _ _ _ _ _ _ _ _ _ r h => by simp [formula_value.l0] at h⟩
 | k + 1 => by
  obtain ⟨ih0, ih1⟩ := formula_value.mono_l k
  refine ⟨?_, ?_⟩
  ·intro y0 y1 y2 y3 y4 y5 y6
   unfold formula_value.f
   repeat' first
   | (with_reducible exact ih0 _ _ _ _ _ _ _)
   | (with_reducible exact ih1 _ _ _ _ _ _ _ _ _ _ _)
   | (with_reducible exact formula_index_has.mono _ _ _ _ _ _)
   | (with_reducible exact LeO.refl _)
   | (with_reducible exact LeO.none _)
   | (with_reducible refine LeO.ite ?_ ?_)
   | (with_reducible refine LeO.bind ?_ (fun _ => ?_))
   | exact ih0 _ _ _ _ _ _ _
   | exact ih1 _ _ _ _ _ _ _ _ _ _ _
   | exact formula_index_has.mono _ _ _ _ _ _
   | exact LeO.none _
   | refine LeO.ite ?_ ?_
   | refine LeO.bind ?_ (fun _ => ?_)
  ·intro y0 y1 y2 y3 y4 y5 y6 y7 y8 y9 y10
   unfold formula_value.l0
   repeat' first
   | (with_reducible exact ih0 _ _ _ _ _ _ _)
   | (with_reducible exact ih1 _ _ _ _ _ _ _ _ _ _ _)
   | (with_reducible exact formula_index_has.mono _ _ _ _ _ _)
   | (with_reducible exact LeO.refl _)
   | (with_reducible exact LeO.none _)
   | (with_reducible refine LeO.ite ?_ ?_)
   | (with_reducible refine LeO.bind ?_ (fun _ => ?_))
   | exact ih0 _ _ _ _ _ _ _
   | exact ih1 _ _ _ _ _ _ _ _ _ _ _
   | exact formula_index_has.mono _ _ _ _ _ _
   | exact LeO.none _
   | refine LeO.ite ?_ ?_
   | refine LeO.bind ?_ (fun _ => ?_)
theorem formula_value.mono : ∀ a0 a1 a2 a3 a4 a5 a6 k, LeO (formula_value.f k a0 a1 a2 a3 a4 a5 a6) (formula_value.f (k + 1) a0 a1 a2 a3 a4 a5 a6) := by
 intro a0 a1 a2 a3 a4 a5 a6 k
 obtain ⟨ih0, ih1⟩ := formula_value.mono_l k
 exact ih0 a0 a1 a2 a3 a4 a5 a6
set_option maxHeartbeats 8000000 in
set_option maxRecDepth 100000 in
theorem formula_value.calls (k : Nat) : ∀ (a0_0 : Int) (a0_1 : ByteArray) (a0_2 : Int) (a0_3 : Int) (A0_4 : Option Addr) (c0_4 : Nat) (l0_4 : List (S28)) (A1_0 : Option Addr) (c1_0 : Nat) (l1_0 : List (S25)) (A1_1 : Option Addr) (c1_1 : Nat) (l1_1 : List Bool) (r : Bool) (w : World) (hr0_4 : Kd.C k28 w A0_4 l0_4.length l0_4) (hc0_4 : l0_4.length ≤ c0_4) (hr1_0 : Kd.C k25 w A1_0 l1_0.length l1_0) (hc1_0 : l1_0.length ≤ c1_0) (hr1_1 : Kd.C Kd.bool w A1_1 l1_1.length l1_1) (hc1_1 : l1_1.length ≤ c1_1) (h : formula_value.f k a0_0 a0_1 a0_2 a0_3 l0_4 l1_0 l1_1 = some r),
  Calls Try.prog 45 #[.agg #[.int .i64 a0_0, .string a0_1, .int .i64 a0_2, .int .i64 a0_3, .slice A0_4 l0_4.length c0_4], .func (.func 44) #[.agg #[.slice A1_0 l1_0.length c1_0, .slice A1_1 l1_1.length c1_1]] #[]] w fun e w' => e = .returned (.bool r) ∧ Below w.heap.size w w' := by
 induction k using Nat.strongRecOn with
 | _ k ih =>
 intro a0_0 a0_1 a0_2 a0_3 A0_4 c0_4 l0_4 A1_0 c1_0 l1_0 A1_1 c1_1 l1_1 r w hr0_4 hc0_4 hr1_0 hc1_0 hr1_1 hc1_1 h
 cases k with
 | zero => exact absurd h (by simp [formula_value.f])
 | succ k =>
 simp only [formula_value.f] at h
 have hu28 := Try.underlying28
 have hu25 := Try.underlying25
 have HR0_4 := Aside0.mk hr0_4
 have HC0_4 := Aside0.mk hc0_4
 clear hr0_4 hc0_4
 have HR1_0 := Aside0.mk hr1_0
 have HC1_0 := Aside0.mk hc1_0
 clear hr1_0 hc1_0
 have HR1_1 := Aside0.mk hr1_1
 have HC1_1 := Aside0.mk hc1_1
 clear hr1_1 hc1_1
 have HB := am (Below.refl w.heap.size w)
 have H : (if a0_0 = 0 then ((formula_index_has.f k l1_0 l1_1 a0_1 a0_2 a0_3).bind fun t181 => (some t181)) else (formula_value.l0 k 0 l0_4 (l0_4.length : Int) 0 l1_0 l1_1 a0_0 a0_1 a0_2 a0_3 l0_4)) = some r := h
 clear h
 by_cases c3 : a0_0 = 0
 ·rw [if_pos c3] at H
  have c3b0 : (a0_0 == 0) = true := beq_iff_eq.mpr c3
  have c3b1 : (a0_0 != 0) = false := bne_eq_false_iff_eq.mpr c3
  clear c3
  replace H := Option.bind_eq_some_iff.mp H
  obtain ⟨t181, A40, H⟩ := H
  replace H : (some t181) = some r := H
  have A4 := Aside0.mk A40
  clear A40
  obtain rfl := Option.some.inj H
  go_enter Try.func45, Try.ntmps45
  go_wp2_with (first | ((with_reducible refine gate_dst (N := 2) rfl ?_); refine box_event ?hg (N := 2) ?hd (cs := #[.int .i64 a0_0, .string a0_1, .int .i64 a0_2, .int .i64 a0_3, .slice A0_4 l0_4.length c0_4]) (t := 28) ?hr ?_; (case hd => rfl); (case hg => rfl); (case hr => first | (go_simp; done) | (go_simp; rfl)); intro gb180 hg w5 hbox hb; have n0_ := am (below_step (zL HB.out) hb); have n1_ := am (hbox); have n2_ := am (zS hg HB.out); have n3_ := am (zS hg HB.out); clear HB; have HB := n0_; have BK180 := n1_; have GW180 := n2_; have GE180 := n3_; clear n0_ n1_ n2_ n3_; clear hb hbox hg; obtain ⟨hcz6_0, hcz6_1, hcz6_2, hcz6_3, hcz6_4, hfz6_0, hfz6_1, hfz6_2, hfz6_3, hfz6_4⟩ := b5 BK180.out) | ((with_reducible refine Xw.gate_value (n := 11) rfl ?_); refine Xw.goesF_ (some 14) rfl rfl Try.func44 (by kernel_rfl) rfl #[.agg #[.slice A1_0 l1_0.length c1_0, .slice A1_1 l1_1.length c1_1]] #[.agg #[.string a0_1, .int .i64 a0_2, .int .i64 a0_3]] #[] #[.agg #[.slice A1_0 l1_0.length c1_0, .slice A1_1 l1_1.length c1_1], .agg #[.string a0_1, .int .i64 a0_2, .int .i64 a0_3]] rfl rfl rfl (by (try simp only [List.map_toArray, List.map_cons, List.map_nil]); first | done | rfl | (simp only [List.length_drop, List.length_take]; rfl)) ?_; (with_reducible refine (formula_index_has.calls k _ _ l1_0 _ _ l1_1 a0_1 a0_2 a0_3 t181 _ ?side1 ?side2 ?side3 ?side4 A4.out).mono ?_); (case side1 => exact zC (Kd.C_below HR1_0.out HB.out)); (case side2 => exact HC1_0.out); (case side3 => exact zC (Kd.C_below HR1_1.out HB.out)); (case side4 => exact HC1_1.out); rintro e w7 ⟨rfl, hb⟩; refine ⟨_, rfl, ?_⟩; have n0_ := am (blk_below (zB BK180.out) hb); have n1_ := am (below_step (zL HB.out) hb); clear BK180 HB; have BK180 := n0_; have HB := n1_; clear n0_ n1_; (try clear hb); (try clear hb2); (try clear hk); (try clear hi)))
  go_ret
  exact ⟨by first | rfl | (simp [errW_none, errW_some] <;> rfl) | (simp [*, errW_none, errW_some] <;> rfl), by repeat (first | (with_reducible first | exact HB.out | apply ba | apply bd | apply be | refine below_set ?_ GE180.out) | exact HB.out)⟩
 ·rw [if_neg c3] at H
  have c3b0 : (a0_0 == 0) = false := beq_eq_false_iff_ne.mpr c3
  have c3b1 : (a0_0 != 0) = true := bne_iff_ne.mpr c3
  have H' := Aside0.mk H
  clear H
  go_enter Try.func45, Try.ntmps45
  go_wp2_with (first | ((with_reducible refine gate_dst (N := 2) rfl ?_); refine box_event ?hg (N := 2) ?hd (cs := #[.int .i64 a0_0, .string a0_1, .int .i64 a0_2, .int .i64 a0_3, .slice A0_4 l0_4.length c0_4]) (t := 28) ?hr ?_; (case hd => rfl); (case hg => rfl); (case hr => first | (go_simp; done) | (go_simp; rfl)); intro gb180 hg w8 hbox hb; have n0_ := am (below_step (zL HB.out) hb); have n1_ := am (hbox); have n2_ := am (zS hg HB.out); have n3_ := am (zS hg HB.out); clear HB; have HB := n0_; have BK180 := n1_; have GW180 := n2_; have GE180 := n3_; clear n0_ n1_ n2_ n3_; clear hb hbox hg; obtain ⟨hcz9_0, hcz9_1, hcz9_2, hcz9_3, hcz9_4, hfz9_0, hfz9_1, hfz9_2, hfz9_3, hfz9_4⟩ := b5 BK180.out))
  go_loopg [5, 18] k (fun kq v5 v18 w' => ∃ (x5_1 : Int) (x18_1 : Int), v5 = .int .i64 x5_1 ∧ v18 = .int .i64 x18_1 ∧ Aside0 (formula_value.l0 kq x5_1 l0_4 (l0_4.length : Int) x18_1 l1_0 l1_1 a0_0 a0_1 a0_2 a0_3 l0_4 = some r) ∧ Aside0 (kq ≤ k) ∧ Aside0 (w'.heap[gb180]? = some (.cells #[.int .i64 a0_0, .string a0_1, .int .i64 a0_2, .int .i64 a0_3, (.slice A0_4 l0_4.length c0_4)] 28 (0, 0))) ∧ Aside0 (Below w.heap.size w w'))
  case atStart => exact ⟨(0), (0), (by first | rfl | (simp; done) | (simp [*]; done)), (by first | rfl | (simp; done) | (simp [*]; done)), H', ⟨Nat.le_refl _⟩, ⟨by exact zB <| BK180.out⟩, ⟨by repeat (first | (with_reducible first | exact HB.out | apply ba | apply bd | apply be | refine below_set ?_ GE180.out) | exact HB.out)⟩⟩
  case round =>
   clear H'
   try clear c1
   try clear p2
   try clear c3
   try clear c3b0
   try clear c3b1
   try clear c4
   try clear hcz6_0
   try clear hcz6_1
   try clear hcz6_2
   try clear hcz6_3
   try clear hcz6_4
   try clear hcz9_0
   try clear hcz9_1
   try clear hcz9_2
   try clear hcz9_3
   try clear hcz9_4
   try clear hfz6_0
   try clear hfz6_1
   try clear hfz6_2
   try clear hfz6_3
   try clear hfz6_4
   try clear hfz9_0
   try clear hfz9_1
   try clear hfz9_2
   try clear hfz9_3
   try clear hfz9_4
   obtain ⟨x5_1, x18_1, rfl, rfl, HA, HK1, BK180, HB⟩ := hrel
   cases gk with
   | zero => exact absurd HA.out (by simp [formula_value.l0])
   | succ k1 =>
    have H := HA.out
    clear HA
    simp only [formula_value.l0] at H
    by_cases c10 : x18_1 < (l0_4.length : Int)
    ·rw [if_pos c10] at H
     have c10b0 : decide (x18_1 < (l0_4.length : Int)) = true := decide_eq_true c10
     clear c10
     by_cases c11 : 0 ≤ x18_1
     ·rw [if_pos c11] at H
      have c11b0 : decide (0 ≤ x18_1) = true := decide_eq_true c11
      clear c11
      by_cases c12 : x18_1 < (l0_4.length : Int)
      ·rw [if_pos c12] at H
       have c12b0 : decide (x18_1 < (l0_4.length : Int)) = true := decide_eq_true c12
       clear c12
       replace H := Option.bind_eq_some_iff.mp H
       obtain ⟨t184, A130, H⟩ := H
       replace H : (if t184 = true then (formula_value.l0 k1 (wrap64 (x5_1 + 1)) l0_4 (l0_4.length : Int) (wrap64 (x18_1 + 1)) l1_0 l1_1 a0_0 a0_1 a0_2 a0_3 l0_4) else (formula_value.l0 k1 x5_1 l0_4 (l0_4.length : Int) (wrap64 (x18_1 + 1)) l1_0 l1_1 a0_0 a0_1 a0_2 a0_3 l0_4)) = some r := H
       have A13 := Aside0.mk A130
       clear A130
       by_cases c14 : t184 = true
       ·subst c14
        have H1 : (formula_value.l0 k1 (wrap64 (x5_1 + 1)) l0_4 (l0_4.length : Int) (wrap64 (x18_1 + 1)) l1_0 l1_1 a0_0 a0_1 a0_2 a0_3 l0_4) = some r := by rw [if_pos rfl] at H; exact H
        clear H
        have H := H1
        clear H1
        have H' := Aside0.mk H
        clear H
        have p182 : 0 ≤ (x18_1 : Int) := of_decide_eq_true (by first | (with_reducible assumption) | assumption)
        have q182 : x18_1 < (l0_4.length : Int) := of_decide_eq_true (by first | (with_reducible assumption) | assumption)
        obtain ⟨ad182, A182_4, c182_4, e182, hx182_0, hx182_1, hx182_2, hx182_3, hx182_4, hl182_4, hi182_4⟩ := at_T28 HR0_4.out x18_1 p182 q182
        cases e182
        replace hx182_0 := (HB.out.cell (World.block_lt_of_cell? w _ hx182_0)).trans hx182_0
        replace hx182_1 := (HB.out.cell (World.block_lt_of_cell? w _ hx182_1)).trans hx182_1
        replace hx182_2 := (HB.out.cell (World.block_lt_of_cell? w _ hx182_2)).trans hx182_2
        replace hx182_3 := (HB.out.cell (World.block_lt_of_cell? w _ hx182_3)).trans hx182_3
        replace hx182_4 := (HB.out.cell (World.block_lt_of_cell? w _ hx182_4)).trans hx182_4
        have HR182_4 := Aside0.mk hi182_4
        have HC182_4 := Aside0.mk hl182_4
        clear hi182_4 hl182_4
        replace p182 := eq_true p182
        replace q182 := eq_true q182
        go_wp2_with (first | ((with_reducible refine gate_dst (N := 7) rfl ?_); refine box_event ?hg (N := 7) ?hd (cs := #[.int .i64 0, .string (⟨#[]⟩ : ByteArray), .int .i64 0, .int .i64 0, .slice none 0 0]) (t := 28) ?hr ?_; (case hd => rfl); (case hg => rfl); (case hr => first | (go_simp; done) | (go_simp; rfl)); intro gb183 hg w15 hbox hb; have n0_ := am (blk_below (zB BK180.out) hb); have n1_ := am (below_step (zL HB.out) hb); have n2_ := am (hbox); have n3_ := am (zS hg HB.out); have n4_ := am (zS hg HB.out); have n5_ := am (zN hg BK180.out); have n6_ := am (zM hg BK180.out); clear BK180 HB; have BK180 := n0_; have HB := n1_; have BK183 := n2_; have GW183 := n3_; have GE183 := n4_; have NB180_183 := n5_; have NB183_180 := n6_; clear n0_ n1_ n2_ n3_ n4_ n5_ n6_; clear hb hbox hg; have hnb16 := NB183_180.out; have hnc16 := NB180_183.out; obtain ⟨hcz17_0, hcz17_1, hcz17_2, hcz17_3, hcz17_4, hfz17_0, hfz17_1, hfz17_2, hfz17_3, hfz17_4⟩ := b5 BK183.out) | ((with_reducible refine gate_store (t := 28) (p := 7) rfl ?_); refine store_event (t := 28) (p := 7) (v := ?vo_w18) (w1 := (((((w15.setCell ⟨gb183, 0, none⟩ (.int .i64 ((rd_T28 l0_4 x18_1).f0))).setCell ⟨gb183, 1, none⟩ (.string ((rd_T28 l0_4 x18_1).f1.f0))).setCell ⟨gb183, 2, none⟩ (.int .i64 ((rd_T28 l0_4 x18_1).f1.f1.f0))).setCell ⟨gb183, 3, none⟩ (.int .i64 ((rd_T28 l0_4 x18_1).f1.f1.f1))).setCell ⟨gb183, 4, none⟩ (.slice A182_4 ((rd_T28 l0_4 x18_1).f2).length c182_4))) ?hg ?ho ?hn ?hr ?_; (case ho => rfl); (case hg => rfl); (case hn => rfl); (case hr => first | (go_simp; done) | (go_simp; rfl)); intro w18 hw; have n0_ : Aside0 (w18.heap[gb180]? = some (.cells #[.int .i64 a0_0, .string a0_1, .int .i64 a0_2, .int .i64 a0_3, .slice (some ad182) l0_4.length c0_4] 28 (0, 0))) := ⟨(by rw [hw]; exact (by refine blk_far ?_ NB180_183.out _; refine blk_far ?_ NB180_183.out _; refine blk_far ?_ NB180_183.out _; refine blk_far ?_ NB180_183.out _; refine blk_far ?_ NB180_183.out _; exact zB <| BK180.out))⟩; have n1_ : Aside0 (w18.heap[gb183]? = some (.cells #[.int .i64 ((rd_T28 l0_4 x18_1).f0), .string ((rd_T28 l0_4 x18_1).f1.f0), .int .i64 ((rd_T28 l0_4 x18_1).f1.f1.f0), .int .i64 ((rd_T28 l0_4 x18_1).f1.f1.f1), .slice A182_4 ((rd_T28 l0_4 x18_1).f2).length c182_4] 28 (0, 0))) := ⟨(by rw [hw]; exact (by refine blk_put (cs := #[.int .i64 ((rd_T28 l0_4 x18_1).f0), .string ((rd_T28 l0_4 x18_1).f1.f0), .int .i64 ((rd_T28 l0_4 x18_1).f1.f1.f0), .int .i64 ((rd_T28 l0_4 x18_1).f1.f1.f1), .slice none 0 0]) ?_ 4 _ rfl; refine blk_put (cs := #[.int .i64 ((rd_T28 l0_4 x18_1).f0), .string ((rd_T28 l0_4 x18_1).f1.f0), .int .i64 ((rd_T28 l0_4 x18_1).f1.f1.f0), .int .i64 0, .slice none 0 0]) ?_ 3 _ rfl; refine blk_put (cs := #[.int .i64 ((rd_T28 l0_4 x18_1).f0), .string ((rd_T28 l0_4 x18_1).f1.f0), .int .i64 0, .int .i64 0, .slice none 0 0]) ?_ 2 _ rfl; refine blk_put (cs := #[.int .i64 ((rd_T28 l0_4 x18_1).f0), .string (⟨#[]⟩ : ByteArray), .int .i64 0, .int .i64 0, .slice none 0 0]) ?_ 1 _ rfl; refine blk_put (cs := #[.int .i64 0, .string (⟨#[]⟩ : ByteArray), .int .i64 0, .int .i64 0, .slice none 0 0]) ?_ 0 _ rfl; exact zB <| BK183.out))⟩; have n2_ : Aside0 (Below w.heap.size w w18) := ⟨(by rw [hw]; exact (by repeat (first | (with_reducible first | exact HB.out | apply ba | apply bd | apply be | refine below_set ?_ GE180.out | refine below_set ?_ GE183.out) | exact HB.out)))⟩; clear hw BK180 BK183 HB; have BK180 := n0_; have BK183 := n1_; have HB := n2_; clear n0_ n1_ n2_; obtain ⟨hcz19_0, hcz19_1, hcz19_2, hcz19_3, hcz19_4, hfz19_0, hfz19_1, hfz19_2, hfz19_3, hfz19_4⟩ := b5 BK183.out) | ((with_reducible refine gate_callee (f := 45) rfl ?_); refine goesL_ (some 24) rfl rfl Try.func45 (by kernel_rfl) rfl #[.agg #[.int .i64 ((rd_T28 l0_4 x18_1).f0), .string ((rd_T28 l0_4 x18_1).f1.f0), .int .i64 ((rd_T28 l0_4 x18_1).f1.f1.f0), .int .i64 ((rd_T28 l0_4 x18_1).f1.f1.f1), .slice A182_4 ((rd_T28 l0_4 x18_1).f2).length c182_4], .func (.func 44) #[.agg #[.slice A1_0 l1_0.length c1_0, .slice A1_1 l1_1.length c1_1]] #[]] rfl mp2 ?_; (with_reducible refine (ih k1 (by have := HK1.out; omega) ((rd_T28 l0_4 x18_1).f0) ((rd_T28 l0_4 x18_1).f1.f0) ((rd_T28 l0_4 x18_1).f1.f1.f0) ((rd_T28 l0_4 x18_1).f1.f1.f1) _ _ ((rd_T28 l0_4 x18_1).f2) _ _ l1_0 _ _ l1_1 true _ ?side1 ?side2 ?side3 ?side4 ?side5 ?side6 A13.out).mono ?_); (case side1 => exact zC (Kd.C_below HR182_4.out HB.out)); (case side2 => exact HC182_4.out); (case side3 => exact zC (Kd.C_below HR1_0.out HB.out)); (case side4 => exact HC1_0.out); (case side5 => exact zC (Kd.C_below HR1_1.out HB.out)); (case side6 => exact HC1_1.out); rintro e w20 ⟨rfl, hb⟩; refine ⟨_, rfl, ?_⟩; have n0_ := am (blk_below (zB BK180.out) hb); have n1_ := am (blk_below (zB BK183.out) hb); have n2_ := am (below_step (zL HB.out) hb); clear BK180 BK183 HB; have BK180 := n0_; have BK183 := n1_; have HB := n2_; clear n0_ n1_ n2_; (try clear hb); (try clear hb2); (try clear hk); (try clear hi)))
        go_roundg k1
        case measure => have := HK1.out; omega
        case rel => exact ⟨(wrap64 (x5_1 + 1)), (wrap64 (x18_1 + 1)), (by first | rfl | (simp; done) | (simp [*]; done)), (by first | rfl | (simp; done) | (simp [*]; done)), H', ⟨by have := HK1.out; omega⟩, ⟨by exact zB <| BK180.out⟩, ⟨by repeat (first | (with_reducible first | exact HB.out | apply ba | apply bd | apply be | refine below_set ?_ GE180.out | refine below_set ?_ GE183.out) | exact HB.out)⟩⟩
       ·replace c14 := Bool.eq_false_iff.mpr c14
        subst c14
        have H1 : (formula_value.l0 k1 x5_1 l0_4 (l0_4.length : Int) (wrap64 (x18_1 + 1)) l1_0 l1_1 a0_0 a0_1 a0_2 a0_3 l0_4) = some r := by rw [if_neg (show ¬ (false = true) by decide)] at H; exact H
        clear H
        have H := H1
        clear H1
        have H' := Aside0.mk H
        clear H
        have p182 : 0 ≤ (x18_1 : Int) := of_decide_eq_true (by first | (with_reducible assumption) | assumption)
        have q182 : x18_1 < (l0_4.length : Int) := of_decide_eq_true (by first | (with_reducible assumption) | assumption)
        obtain ⟨ad182, A182_4, c182_4, e182, hx182_0, hx182_1, hx182_2, hx182_3, hx182_4, hl182_4, hi182_4⟩ := at_T28 HR0_4.out x18_1 p182 q182
        cases e182
        replace hx182_0 := (HB.out.cell (World.block_lt_of_cell? w _ hx182_0)).trans hx182_0
        replace hx182_1 := (HB.out.cell (World.block_lt_of_cell? w _ hx182_1)).trans hx182_1
        replace hx182_2 := (HB.out.cell (World.block_lt_of_cell? w _ hx182_2)).trans hx182_2
        replace hx182_3 := (HB.out.cell (World.block_lt_of_cell? w _ hx182_3)).trans hx182_3
        replace hx182_4 := (HB.out.cell (World.block_lt_of_cell? w _ hx182_4)).trans hx182_4
        have HR182_4 := Aside0.mk hi182_4
        have HC182_4 := Aside0.mk hl182_4
        clear hi182_4 hl182_4
        replace p182 := eq_true p182
        replace q182 := eq_true q182
        go_wp2_with (first | ((with_reducible refine gate_dst (N := 7) rfl ?_); refine box_event ?hg (N := 7) ?hd (cs := #[.int .i64 0, .string (⟨#[]⟩ : ByteArray), .int .i64 0, .int .i64 0, .slice none 0 0]) (t := 28) ?hr ?_; (case hd => rfl); (case hg => rfl); (case hr => first | (go_simp; done) | (go_simp; rfl)); intro gb183 hg w21 hbox hb; have n0_ := am (blk_below (zB BK180.out) hb); have n1_ := am (below_step (zL HB.out) hb); have n2_ := am (hbox); have n3_ := am (zS hg HB.out); have n4_ := am (zS hg HB.out); have n5_ := am (zN hg BK180.out); have n6_ := am (zM hg BK180.out); clear BK180 HB; have BK180 := n0_; have HB := n1_; have BK183 := n2_; have GW183 := n3_; have GE183 := n4_; have NB180_183 := n5_; have NB183_180 := n6_; clear n0_ n1_ n2_ n3_ n4_ n5_ n6_; clear hb hbox hg; have hnb22 := NB183_180.out; have hnc22 := NB180_183.out; obtain ⟨hcz23_0, hcz23_1, hcz23_2, hcz23_3, hcz23_4, hfz23_0, hfz23_1, hfz23_2, hfz23_3, hfz23_4⟩ := b5 BK183.out) | ((with_reducible refine gate_store (t := 28) (p := 7) rfl ?_); refine store_event (t := 28) (p := 7) (v := ?vo_w24) (w1 := (((((w21.setCell ⟨gb183, 0, none⟩ (.int .i64 ((rd_T28 l0_4 x18_1).f0))).setCell ⟨gb183, 1, none⟩ (.string ((rd_T28 l0_4 x18_1).f1.f0))).setCell ⟨gb183, 2, none⟩ (.int .i64 ((rd_T28 l0_4 x18_1).f1.f1.f0))).setCell ⟨gb183, 3, none⟩ (.int .i64 ((rd_T28 l0_4 x18_1).f1.f1.f1))).setCell ⟨gb183, 4, none⟩ (.slice A182_4 ((rd_T28 l0_4 x18_1).f2).length c182_4))) ?hg ?ho ?hn ?hr ?_; (case ho => rfl); (case hg => rfl); (case hn => rfl); (case hr => first | (go_simp; done) | (go_simp; rfl)); intro w24 hw; have n0_ : Aside0 (w24.heap[gb180]? = some (.cells #[.int .i64 a0_0, .string a0_1, .int .i64 a0_2, .int .i64 a0_3, .slice (some ad182) l0_4.length c0_4] 28 (0, 0))) := ⟨(by rw [hw]; exact (by refine blk_far ?_ NB180_183.out _; refine blk_far ?_ NB180_183.out _; refine blk_far ?_ NB180_183.out _; refine blk_far ?_ NB180_183.out _; refine blk_far ?_ NB180_183.out _; exact zB <| BK180.out))⟩; have n1_ : Aside0 (w24.heap[gb183]? = some (.cells #[.int .i64 ((rd_T28 l0_4 x18_1).f0), .string ((rd_T28 l0_4 x18_1).f1.f0), .int .i64 ((rd_T28 l0_4 x18_1).f1.f1.f0), .int .i64 ((rd_T28 l0_4 x18_1).f1.f1.f1), .slice A182_4 ((rd_T28 l0_4 x18_1).f2).length c182_4] 28 (0, 0))) := ⟨(by rw [hw]; exact (by refine blk_put (cs := #[.int .i64 ((rd_T28 l0_4 x18_1).f0), .string ((rd_T28 l0_4 x18_1).f1.f0), .int .i64 ((rd_T28 l0_4 x18_1).f1.f1.f0), .int .i64 ((rd_T28 l0_4 x18_1).f1.f1.f1), .slice none 0 0]) ?_ 4 _ rfl; refine blk_put (cs := #[.int .i64 ((rd_T28 l0_4 x18_1).f0), .string ((rd_T28 l0_4 x18_1).f1.f0), .int .i64 ((rd_T28 l0_4 x18_1).f1.f1.f0), .int .i64 0, .slice none 0 0]) ?_ 3 _ rfl; refine blk_put (cs := #[.int .i64 ((rd_T28 l0_4 x18_1).f0), .string ((rd_T28 l0_4 x18_1).f1.f0), .int .i64 0, .int .i64 0, .slice none 0 0]) ?_ 2 _ rfl; refine blk_put (cs := #[.int .i64 ((rd_T28 l0_4 x18_1).f0), .string (⟨#[]⟩ : ByteArray), .int .i64 0, .int .i64 0, .slice none 0 0]) ?_ 1 _ rfl; refine blk_put (cs := #[.int .i64 0, .string (⟨#[]⟩ : ByteArray), .int .i64 0, .int .i64 0, .slice none 0 0]) ?_ 0 _ rfl; exact zB <| BK183.out))⟩; have n2_ : Aside0 (Below w.heap.size w w24) := ⟨(by rw [hw]; exact (by repeat (first | (with_reducible first | exact HB.out | apply ba | apply bd | apply be | refine below_set ?_ GE180.out | refine below_set ?_ GE183.out) | exact HB.out)))⟩; clear hw BK180 BK183 HB; have BK180 := n0_; have BK183 := n1_; have HB := n2_; clear n0_ n1_ n2_; obtain ⟨hcz25_0, hcz25_1, hcz25_2, hcz25_3, hcz25_4, hfz25_0, hfz25_1, hfz25_2, hfz25_3, hfz25_4⟩ := b5 BK183.out) | ((with_reducible refine gate_callee (f := 45) rfl ?_); refine goesL_ (some 24) rfl rfl Try.func45 (by kernel_rfl) rfl #[.agg #[.int .i64 ((rd_T28 l0_4 x18_1).f0), .string ((rd_T28 l0_4 x18_1).f1.f0), .int .i64 ((rd_T28 l0_4 x18_1).f1.f1.f0), .int .i64 ((rd_T28 l0_4 x18_1).f1.f1.f1), .slice A182_4 ((rd_T28 l0_4 x18_1).f2).length c182_4], .func (.func 44) #[.agg #[.slice A1_0 l1_0.length c1_0, .slice A1_1 l1_1.length c1_1]] #[]] rfl mp2 ?_; (with_reducible refine (ih k1 (by have := HK1.out; omega) ((rd_T28 l0_4 x18_1).f0) ((rd_T28 l0_4 x18_1).f1.f0) ((rd_T28 l0_4 x18_1).f1.f1.f0) ((rd_T28 l0_4 x18_1).f1.f1.f1) _ _ ((rd_T28 l0_4 x18_1).f2) _ _ l1_0 _ _ l1_1 false _ ?side1 ?side2 ?side3 ?side4 ?side5 ?side6 A13.out).mono ?_); (case side1 => exact zC (Kd.C_below HR182_4.out HB.out)); (case side2 => exact HC182_4.out); (case side3 => exact zC (Kd.C_below HR1_0.out HB.out)); (case side4 => exact HC1_0.out); (case side5 => exact zC (Kd.C_below HR1_1.out HB.out)); (case side6 => exact HC1_1.out); rintro e w26 ⟨rfl, hb⟩; refine ⟨_, rfl, ?_⟩; have n0_ := am (blk_below (zB BK180.out) hb); have n1_ := am (blk_below (zB BK183.out) hb); have n2_ := am (below_step (zL HB.out) hb); clear BK180 BK183 HB; have BK180 := n0_; have BK183 := n1_; have HB := n2_; clear n0_ n1_ n2_; (try clear hb); (try clear hb2); (try clear hk); (try clear hi)))
        go_roundg k1
        case measure => have := HK1.out; omega
        case rel => exact ⟨(x5_1), (wrap64 (x18_1 + 1)), (by first | rfl | (simp; done) | (simp [*]; done)), (by first | rfl | (simp; done) | (simp [*]; done)), H', ⟨by have := HK1.out; omega⟩, ⟨by exact zB <| BK180.out⟩, ⟨by repeat (first | (with_reducible first | exact HB.out | apply ba | apply bd | apply be | refine below_set ?_ GE180.out | refine below_set ?_ GE183.out) | exact HB.out)⟩⟩
      ·rw [if_neg c12] at H
       exact absurd H (by simp)
     ·rw [if_neg c11] at H
      exact absurd H (by simp)
    ·rw [if_neg c10] at H
     have c10b0 : decide (x18_1 < (l0_4.length : Int)) = false := decide_eq_false c10
     clear c10
     obtain rfl := Option.some.inj H
     obtain ⟨hcz27_0, hcz27_1, hcz27_2, hcz27_3, hcz27_4, hfz27_0, hfz27_1, hfz27_2, hfz27_3, hfz27_4⟩ := b5 BK180.out
     go_wp2
     go_ret
     exact ⟨by first | rfl | (simp [errW_none, errW_some] <;> rfl) | (simp [*, errW_none, errW_some] <;> rfl), by repeat (first | (with_reducible first | exact HB.out | apply ba | apply bd | apply be | refine below_set ?_ GE180.out) | exact HB.out)⟩

/-! ### formula_holds: function 33 -/
def formula_holds.f (k : Nat) (a0_0 : Int) (a0_1 : ByteArray) (a0_2 : Int) (a0_3 : Int) (l0_4 : List (S28)) (l1 : List (S25)) (l2 : List Bool) : Option (Bool) := (formula_value.f k a0_0 a0_1 a0_2 a0_3 l0_4 l1 l2).bind fun t186 => (some t186)
theorem formula_holds.mono : ∀ a0 a1 a2 a3 a4 a5 a6 k, LeO (formula_holds.f k a0 a1 a2 a3 a4 a5 a6) (formula_holds.f (k + 1) a0 a1 a2 a3 a4 a5 a6) := by
 intro a0 a1 a2 a3 a4 a5 a6 k
 unfold formula_holds.f
 repeat' first
   | (with_reducible exact formula_value.mono _ _ _ _ _ _ _ _)
   | (with_reducible exact LeO.refl _)
   | (with_reducible exact LeO.none _)
   | (with_reducible refine LeO.ite ?_ ?_)
   | (with_reducible refine LeO.bind ?_ (fun _ => ?_))
   | exact formula_value.mono _ _ _ _ _ _ _ _
   | exact LeO.none _
   | refine LeO.ite ?_ ?_
   | refine LeO.bind ?_ (fun _ => ?_)
set_option maxHeartbeats 8000000 in
set_option maxRecDepth 100000 in
theorem formula_holds.calls (k : Nat) (a0_0 : Int) (a0_1 : ByteArray) (a0_2 : Int) (a0_3 : Int) (A0_4 : Option Addr) (c0_4 : Nat) (l0_4 : List (S28)) (A1 : Option Addr) (c1 : Nat) (l1 : List (S25)) (A2 : Option Addr) (c2 : Nat) (l2 : List Bool) (r : Bool) (w : World) (hr0_4 : Kd.C k28 w A0_4 l0_4.length l0_4) (hc0_4 : l0_4.length ≤ c0_4) (hr1 : Kd.C k25 w A1 l1.length l1) (hc1 : l1.length ≤ c1) (hr2 : Kd.C Kd.bool w A2 l2.length l2) (hc2 : l2.length ≤ c2) (h : formula_holds.f k a0_0 a0_1 a0_2 a0_3 l0_4 l1 l2 = some r) :
  Calls Try.prog 33 #[.agg #[.int .i64 a0_0, .string a0_1, .int .i64 a0_2, .int .i64 a0_3, .slice A0_4 l0_4.length c0_4], .slice A1 l1.length c1, .slice A2 l2.length c2] w fun e w' => e = .returned (.bool r) ∧ Below w.heap.size w w' := by
 have hu28 := Try.underlying28
 have hu70 := Try.underlying70
 have HR0_4 := Aside0.mk hr0_4
 have HC0_4 := Aside0.mk hc0_4
 clear hr0_4 hc0_4
 have HR1 := Aside0.mk hr1
 have HC1 := Aside0.mk hc1
 clear hr1 hc1
 have HR2 := Aside0.mk hr2
 have HC2 := Aside0.mk hc2
 clear hr2 hc2
 have HB := am (Below.refl w.heap.size w)
 have H : ((formula_value.f k a0_0 a0_1 a0_2 a0_3 l0_4 l1 l2).bind fun t186 => (some t186)) = some r := h
 clear h
 replace H := Option.bind_eq_some_iff.mp H
 obtain ⟨t186, A40, H⟩ := H
 replace H : (some t186) = some r := H
 have A4 := Aside0.mk A40
 clear A40
 obtain rfl := Option.some.inj H
 go_enter Try.func33, Try.ntmps33
 go_wp2_with (first | ((with_reducible refine gate_dst (N := 3) rfl ?_); refine box_event ?hg (N := 3) ?hd (cs := #[.int .i64 a0_0, .string a0_1, .int .i64 a0_2, .int .i64 a0_3, .slice A0_4 l0_4.length c0_4]) (t := 28) ?hr ?_; (case hd => rfl); (case hg => rfl); (case hr => first | (go_simp; done) | (go_simp; rfl)); intro gb185 hg w5 hbox hb; have n0_ := am (below_step (zL HB.out) hb); have n1_ := am (hbox); have n2_ := am (zS hg HB.out); have n3_ := am (zS hg HB.out); clear HB; have HB := n0_; have BK185 := n1_; have GW185 := n2_; have GE185 := n3_; clear n0_ n1_ n2_ n3_; clear hb hbox hg; obtain ⟨hcz6_0, hcz6_1, hcz6_2, hcz6_3, hcz6_4, hfz6_0, hfz6_1, hfz6_2, hfz6_3, hfz6_4⟩ := b5 BK185.out) | ((with_reducible refine gate_callee (f := 45) rfl ?_); refine goesL_ (some 14) rfl rfl Try.func45 (by kernel_rfl) rfl #[.agg #[.int .i64 a0_0, .string a0_1, .int .i64 a0_2, .int .i64 a0_3, .slice A0_4 l0_4.length c0_4], .func (.func 44) #[.agg #[.slice A1 l1.length c1, .slice A2 l2.length c2]] #[]] rfl mp2 ?_; (with_reducible refine (formula_value.calls k a0_0 a0_1 a0_2 a0_3 _ _ l0_4 _ _ l1 _ _ l2 t186 _ ?side1 ?side2 ?side3 ?side4 ?side5 ?side6 A4.out).mono ?_); (case side1 => exact zC (Kd.C_below HR0_4.out HB.out)); (case side2 => exact HC0_4.out); (case side3 => exact zC (Kd.C_below HR1.out HB.out)); (case side4 => exact HC1.out); (case side5 => exact zC (Kd.C_below HR2.out HB.out)); (case side6 => exact HC2.out); rintro e w7 ⟨rfl, hb⟩; refine ⟨_, rfl, ?_⟩; have n0_ := am (blk_below (zB BK185.out) hb); have n1_ := am (below_step (zL HB.out) hb); clear BK185 HB; have BK185 := n0_; have HB := n1_; clear n0_ n1_; (try clear hb); (try clear hb2); (try clear hk); (try clear hi)))
 go_ret
 exact ⟨by first | rfl | (simp [errW_none, errW_some] <;> rfl) | (simp [*, errW_none, errW_some] <;> rfl), by repeat (first | (with_reducible first | exact HB.out | apply ba | apply bd | apply be | refine below_set ?_ GE185.out) | exact HB.out)⟩

end Go.Proofs.Ytefbcebpokoinaa.Y

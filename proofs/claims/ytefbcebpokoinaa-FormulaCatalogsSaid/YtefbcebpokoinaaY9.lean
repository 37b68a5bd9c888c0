-- Laid by a program of this session's (xprint.py, which runs the kit's print.py with patches of its own). Lean checks it.
import Derived.Test.YtefbcebpokoinaaY0
import Derived.Test.YtefbcebpokoinaaY5
import Derived.Test.YtefbcebpokoinaaY8
namespace Go.Proofs.Ytefbcebpokoinaa.Y
open Go.RowKit Go.Proofs.YtefbcebpokoinaaW.PrintWords Go.Proofs.YtefbcebpokoinaaW.PrintLast Go.Proofs.YtefbcebpokoinaaW.PrintMore
attribute [local go_sem] max2_int min2_int max_two min_two max_three min_three max_four min_four   -- for this text's walks alone
set_option linter.unusedVariables false
set_option linter.unusedSimpArgs false

/-! ### formula_Holds: function 15 -/
def formula_Holds.f (k : Nat) (a0_0 : Int) (a0_1 : ByteArray) (a0_2 : Int) (a0_3 : Int) (l0_4 : List (S28)) (l1 : List Bool) : Option (Bool) := (formula_Atoms.f k a0_0 a0_1 a0_2 a0_3 l0_4).bind fun t188 => (if (t188.length : Int) > 0 then ((formula_holds.f k a0_0 a0_1 a0_2 a0_3 l0_4 t188 l1).bind fun t191 => (some t191)) else (some false))
theorem formula_Holds.mono : ∀ a0 a1 a2 a3 a4 a5 k, LeO (formula_Holds.f k a0 a1 a2 a3 a4 a5) (formula_Holds.f (k + 1) a0 a1 a2 a3 a4 a5) := by
 intro a0 a1 a2 a3 a4 a5 k
 unfold formula_Holds.f
 repeat' first
   | (with_reducible exact formula_Atoms.mono _ _ _ _ _ _)
   | (with_reducible exact formula_holds.mono _ _ _ _ _ _ _ _)
   | (with_reducible exact LeO.refl _)
   | (with_reducible exact LeO.none _)
   | (with_reducible refine LeO.ite ?_ ?_)
   | (with_reducible refine LeO.bind ?_ (fun _ => ?_))
   | exact formula_Atoms.mono _ _ _ _ _ _
   | exact formula_holds.mono _ _ _ _ _ _ _ _
   | exact LeO.none _
   | refine LeO.ite ?_ ?_
   | refine LeO.bind ?_ (fun _ => ?_)
set_option maxHeartbeats 8000000 in
set_option maxRecDepth 100000 in
theorem formula_Holds.calls (k : Nat) (a0_0 : Int) (a0_1 : ByteArray) (a0_2 : Int) (a0_3 : Int) (A0_4 : Option Addr) (c0_4 : Nat) (l0_4 : List (S28)) (A1 : Option Addr) (c1 : Nat) (l1 : List Bool) (r : Bool) (w : World) (hr0_4 : Kd.C k28 w A0_4 l0_4.length l0_4) (hc0_4 : l0_4.length ≤ c0_4) (hr1 : Kd.C Kd.bool w A1 l1.length l1) (hc1 : l1.length ≤ c1) (h : formula_Holds.f k a0_0 a0_1 a0_2 a0_3 l0_4 l1 = some r) :
  Calls Try.prog 15 #[.agg #[.int .i64 a0_0, .string a0_1, .int .i64 a0_2, .int .i64 a0_3, .slice A0_4 l0_4.length c0_4], .slice A1 l1.length c1] w fun e w' => e = .returned (.bool r) ∧ Below w.heap.size w w' := by
 have hu28 := Try.underlying28
 have HR0_4 := Aside0.mk hr0_4
 have HC0_4 := Aside0.mk hc0_4
 clear hr0_4 hc0_4
 have HR1 := Aside0.mk hr1
 have HC1 := Aside0.mk hc1
 clear hr1 hc1
 have HB := am (Below.refl w.heap.size w)
 have H : ((formula_Atoms.f k a0_0 a0_1 a0_2 a0_3 l0_4).bind fun t188 => (if (t188.length : Int) > 0 then ((formula_holds.f k a0_0 a0_1 a0_2 a0_3 l0_4 t188 l1).bind fun t191 => (some t191)) else (some false))) = some r := h
 clear h
 replace H := Option.bind_eq_some_iff.mp H
 obtain ⟨t188, A30, H⟩ := H
 replace H : (if (t188.length : Int) > 0 then ((formula_holds.f k a0_0 a0_1 a0_2 a0_3 l0_4 t188 l1).bind fun t191 => (some t191)) else (some false)) = some r := H
 have A3 := Aside0.mk A30
 clear A30
 by_cases c4 : (t188.length : Int) > 0
 ·rw [if_pos c4] at H
  have c4b0 : decide (0 < (t188.length : Int)) = true := decide_eq_true c4
  have c4b1 : decide (0 < t188.length) = true := decide_eq_true (by omega)
  clear c4
  replace H := Option.bind_eq_some_iff.mp H
  obtain ⟨t191, A50, H⟩ := H
  replace H : (some t191) = some r := H
  have A5 := Aside0.mk A50
  clear A50
  obtain rfl := Option.some.inj H
  go_enter Try.func15, Try.ntmps15
  go_wp2_with (first | ((with_reducible refine gate_dst (N := 2) rfl ?_); refine box_event ?hg (N := 2) ?hd (cs := #[.int .i64 a0_0, .string a0_1, .int .i64 a0_2, .int .i64 a0_3, .slice A0_4 l0_4.length c0_4]) (t := 28) ?hr ?_; (case hd => rfl); (case hg => rfl); (case hr => first | (go_simp; done) | (go_simp; rfl)); intro gb187 hg w6 hbox hb; have n0_ := am (below_step (zL HB.out) hb); have n1_ := am (hbox); have n2_ := am (zS hg HB.out); have n3_ := am (zS hg HB.out); clear HB; have HB := n0_; have BK187 := n1_; have GW187 := n2_; have GE187 := n3_; clear n0_ n1_ n2_ n3_; clear hb hbox hg; obtain ⟨hcz7_0, hcz7_1, hcz7_2, hcz7_3, hcz7_4, hfz7_0, hfz7_1, hfz7_2, hfz7_3, hfz7_4⟩ := b5 BK187.out) | ((with_reducible refine gate_callee (f := 12) rfl ?_); refine goesL_ (some 7) rfl rfl Try.func12 (by kernel_rfl) rfl #[.agg #[.int .i64 a0_0, .string a0_1, .int .i64 a0_2, .int .i64 a0_3, .slice A0_4 l0_4.length c0_4]] rfl mp1 ?_; (with_reducible refine (formula_Atoms.calls k a0_0 a0_1 a0_2 a0_3 _ _ l0_4 t188 _ ?side1 ?side2 A3.out).mono ?_); (case side1 => exact zC (Kd.C_below HR0_4.out HB.out)); (case side2 => exact HC0_4.out); rintro e w8 ⟨v189, rfl, ho0, hb⟩; refine ⟨_, rfl, ?_⟩; have n0_ := am (Kd.R_lower ho0 (below_size (zL HB.out))); have n1_ := am (blk_below (zB BK187.out) hb); have n2_ := am (below_step (zL HB.out) hb); clear BK187 HB; have HO190 := n0_; have BK187 := n1_; have HB := n2_; clear n0_ n1_ n2_; (try clear hb); (try clear hb2); (try clear hk); (try clear hi); (try clear ho0); obtain ⟨Ao9, co9, eo9⟩ := Kd.R_slice HO190.out; subst eo9; obtain ⟨hcz10_0, hcz10_1, hcz10_2, hcz10_3, hcz10_4, hfz10_0, hfz10_1, hfz10_2, hfz10_3, hfz10_4⟩ := b5 BK187.out) | (go_at_call 33; (with_reducible refine (formula_holds.calls k a0_0 a0_1 a0_2 a0_3 _ _ l0_4 _ _ t188 _ _ l1 t191 _ ?side1 ?side2 ?side3 ?side4 ?side5 ?side6 A5.out).mono ?_); (case side1 => exact zC (Kd.C_below HR0_4.out HB.out)); (case side2 => exact HC0_4.out); (case side3 => exact zC (Kd.R_reads' HO190.out).2.2); (case side4 => exact (Kd.R_reads' HO190.out).2.1); (case side5 => exact zC (Kd.C_below HR1.out HB.out)); (case side6 => exact HC1.out); rintro e w11 ⟨rfl, hb⟩; have n0_ := am (Kd.R_below (zR HO190.out) hb); have n1_ := am (blk_below (zB BK187.out) hb); have n2_ := am (below_step (zL HB.out) hb); clear HO190 BK187 HB; have HO190 := n0_; have BK187 := n1_; have HB := n2_; clear n0_ n1_ n2_; (try clear hb); (try clear hb2); (try clear hk); (try clear hi)))
  go_ret
  exact ⟨by first | rfl | (simp [errW_none, errW_some] <;> rfl) | (simp [*, errW_none, errW_some] <;> rfl), by repeat (first | (with_reducible first | exact HB.out | apply ba | apply bd | apply be | refine below_set ?_ GE187.out) | exact HB.out)⟩
 ·rw [if_neg c4] at H
  have c4b0 : decide (0 < (t188.length : Int)) = false := decide_eq_false c4
  have c4b1 : decide (0 < t188.length) = false := decide_eq_false (by omega)
  clear c4
  obtain rfl := Option.some.inj H
  go_enter Try.func15, Try.ntmps15
  go_wp2_with (first | ((with_reducible refine gate_dst (N := 2) rfl ?_); refine box_event ?hg (N := 2) ?hd (cs := #[.int .i64 a0_0, .string a0_1, .int .i64 a0_2, .int .i64 a0_3, .slice A0_4 l0_4.length c0_4]) (t := 28) ?hr ?_; (case hd => rfl); (case hg => rfl); (case hr => first | (go_simp; done) | (go_simp; rfl)); intro gb187 hg w12 hbox hb; have n0_ := am (below_step (zL HB.out) hb); have n1_ := am (hbox); have n2_ := am (zS hg HB.out); have n3_ := am (zS hg HB.out); clear HB; have HB := n0_; have BK187 := n1_; have GW187 := n2_; have GE187 := n3_; clear n0_ n1_ n2_ n3_; clear hb hbox hg; obtain ⟨hcz13_0, hcz13_1, hcz13_2, hcz13_3, hcz13_4, hfz13_0, hfz13_1, hfz13_2, hfz13_3, hfz13_4⟩ := b5 BK187.out) | ((with_reducible refine gate_callee (f := 12) rfl ?_); refine goesL_ (some 7) rfl rfl Try.func12 (by kernel_rfl) rfl #[.agg #[.int .i64 a0_0, .string a0_1, .int .i64 a0_2, .int .i64 a0_3, .slice A0_4 l0_4.length c0_4]] rfl mp1 ?_; (with_reducible refine (formula_Atoms.calls k a0_0 a0_1 a0_2 a0_3 _ _ l0_4 t188 _ ?side1 ?side2 A3.out).mono ?_); (case side1 => exact zC (Kd.C_below HR0_4.out HB.out)); (case side2 => exact HC0_4.out); rintro e w14 ⟨v189, rfl, ho0, hb⟩; refine ⟨_, rfl, ?_⟩; have n0_ := am (Kd.R_lower ho0 (below_size (zL HB.out))); have n1_ := am (blk_below (zB BK187.out) hb); have n2_ := am (below_step (zL HB.out) hb); clear BK187 HB; have HO190 := n0_; have BK187 := n1_; have HB := n2_; clear n0_ n1_ n2_; (try clear hb); (try clear hb2); (try clear hk); (try clear hi); (try clear ho0); obtain ⟨Ao15, co15, eo15⟩ := Kd.R_slice HO190.out; subst eo15))
  go_ret
  exact ⟨by first | rfl | (simp [errW_none, errW_some] <;> rfl) | (simp [*, errW_none, errW_some] <;> rfl), by repeat (first | (with_reducible first | exact HB.out | apply ba | apply bd | apply be | refine below_set ?_ GE187.out) | exact HB.out)⟩

/-! ### formula_Hopeless: function 17 -/
def formula_Hopeless.l0 : Nat → List Bool → List (S25) → List Bool → Int → Int → Int → ByteArray → Int → Int → List (S28) → Option (Bool)
 | 0, _, _, _, _, _, _, _, _, _, _ => none
 | k + 1, x1, x5, x6, x17, x18, x193000, x193001, x193002, x193003, x193004 => if x18 < x17 then (if x18 ≥ (x1.length : Int) then (if 0 ≤ x18 then (if x18 < (x6.length : Int) then (formula_Hopeless.l0 k x1 x5 (x6.set (x18 : Int).toNat true) x17 (wrap64 (x18 + 1)) x193000 x193001 x193002 x193003 x193004) else (none)) else (none)) else (if 0 ≤ x18 then (if x18 < (x1.length : Int) then (if x18 < (x6.length : Int) then (formula_Hopeless.l0 k x1 x5 (x6.set (x18 : Int).toNat (!(rdOf false x1 x18))) x17 (wrap64 (x18 + 1)) x193000 x193001 x193002 x193003 x193004) else (none)) else (none)) else (none))) else ((formula_holds.f k x193000 x193001 x193002 x193003 x193004 x5 x6).bind fun t202 => (some (!t202)))
def formula_Hopeless.f (k : Nat) (a0_0 : Int) (a0_1 : ByteArray) (a0_2 : Int) (a0_3 : Int) (l0_4 : List (S28)) (l1 : List Bool) : Option (Bool) := (formula_Atoms.f k a0_0 a0_1 a0_2 a0_3 l0_4).bind fun t193 => (if (t193.length : Int) = 0 then (some false) else (if 0 ≤ (t193.length : Int) then (if ((t193.length : Int) : Int).toNat ≤ 281474976710656 then (formula_Hopeless.l0 k l1 t193 (List.replicate ((t193.length : Int) : Int).toNat false) (t193.length : Int) 0 a0_0 a0_1 a0_2 a0_3 l0_4) else (none)) else (none)))
theorem formula_Hopeless.mono_l : ∀ k, (∀ y0 y1 y2 y3 y4 y5 y6 y7 y8 y9, LeO (formula_Hopeless.l0 k y0 y1 y2 y3 y4 y5 y6 y7 y8 y9) (formula_Hopeless.l0 (k + 1) y0 y1 y2 y3 y4 y5 y6 y7 y8 y9))
 | 0 => fun _ _ _ _ _ _ _ _ _ _ r h => by simp [formula_Hopeless.l0] at h
 | k + 1 => by
  have ih0 := formula_Hopeless.mono_l k
  ·intro y0 y1 y2 y3 y4 y5 y6 y7 y8 y9
   unfold formula_Hopeless.l0
   repeat' first
   | (with_reducible exact ih0 _ _ _ _ _ _ _ _ _ _)
   | (with_reducible exact formula_Atoms.mono _ _ _ _ _ _)
   | (with_reducible exact formula_holds.mono _ _ _ _ _ _ _ _)
   | (with_reducible exact LeO.refl _)
   | (with_reducible exact LeO.none _)
   | (with_reducible refine LeO.ite ?_ ?_)
   | (with_reducible refine LeO.bind ?_ (fun _ => ?_))
   | exact ih0 _ _ _ _ _ _ _ _ _ _
   | exact formula_Atoms.mono _ _ _ _ _ _
   | exact formula_holds.mono _ _ _ _ _ _ _ _
   | exact LeO.none _
   | refine LeO.ite ?_ ?_
   | refine LeO.bind ?_ (fun _ => ?_)
theorem formula_Hopeless.mono : ∀ a0 a1 a2 a3 a4 a5 k, LeO (formula_Hopeless.f k a0 a1 a2 a3 a4 a5) (formula_Hopeless.f (k + 1) a0 a1 a2 a3 a4 a5) := by
 intro a0 a1 a2 a3 a4 a5 k
 have ih0 := formula_Hopeless.mono_l k
 unfold formula_Hopeless.f
 repeat' first
   | (with_reducible exact ih0 _ _ _ _ _ _ _ _ _ _)
   | (with_reducible exact formula_Atoms.mono _ _ _ _ _ _)
   | (with_reducible exact formula_holds.mono _ _ _ _ _ _ _ _)
   | (with_reducible exact LeO.refl _)
   | (with_reducible exact LeO.none _)
   | (with_reducible refine LeO.ite ?_ ?_)
   | (with_reducible refine LeO.bind ?_ (fun _ => ?_))
   | exact ih0 _ _ _ _ _ _ _ _ _ _
   | exact formula_Atoms.mono _ _ _ _ _ _
   | exact formula_holds.mono _ _ _ _ _ _ _ _
   | exact LeO.none _
   | refine LeO.ite ?_ ?_
   | refine LeO.bind ?_ (fun _ => ?_)
set_option maxHeartbeats 8000000 in
set_option maxRecDepth 100000 in
theorem formula_Hopeless.calls (k : Nat) (a0_0 : Int) (a0_1 : ByteArray) (a0_2 : Int) (a0_3 : Int) (A0_4 : Option Addr) (c0_4 : Nat) (l0_4 : List (S28)) (A1 : Option Addr) (c1 : Nat) (l1 : List Bool) (r : Bool) (w : World) (hr0_4 : Kd.C k28 w A0_4 l0_4.length l0_4) (hc0_4 : l0_4.length ≤ c0_4) (hr1 : Kd.C Kd.bool w A1 l1.length l1) (hc1 : l1.length ≤ c1) (h : formula_Hopeless.f k a0_0 a0_1 a0_2 a0_3 l0_4 l1 = some r) :
  Calls Try.prog 17 #[.agg #[.int .i64 a0_0, .string a0_1, .int .i64 a0_2, .int .i64 a0_3, .slice A0_4 l0_4.length c0_4], .slice A1 l1.length c1] w fun e w' => e = .returned (.bool r) ∧ Below w.heap.size w w' := by
 have hu28 := Try.underlying28
 have HR0_4 := Aside0.mk hr0_4
 have HC0_4 := Aside0.mk hc0_4
 clear hr0_4 hc0_4
 have HR1 := Aside0.mk hr1
 have HC1 := Aside0.mk hc1
 clear hr1 hc1
 have HB := am (Below.refl w.heap.size w)
 have H : ((formula_Atoms.f k a0_0 a0_1 a0_2 a0_3 l0_4).bind fun t193 => (if (t193.length : Int) = 0 then (some false) else (if 0 ≤ (t193.length : Int) then (if ((t193.length : Int) : Int).toNat ≤ 281474976710656 then (formula_Hopeless.l0 k l1 t193 (List.replicate ((t193.length : Int) : Int).toNat false) (t193.length : Int) 0 a0_0 a0_1 a0_2 a0_3 l0_4) else (none)) else (none)))) = some r := h
 clear h
 replace H := Option.bind_eq_some_iff.mp H
 obtain ⟨t193, A30, H⟩ := H
 replace H : (if (t193.length : Int) = 0 then (some false) else (if 0 ≤ (t193.length : Int) then (if ((t193.length : Int) : Int).toNat ≤ 281474976710656 then (formula_Hopeless.l0 k l1 t193 (List.replicate ((t193.length : Int) : Int).toNat false) (t193.length : Int) 0 a0_0 a0_1 a0_2 a0_3 l0_4) else (none)) else (none))) = some r := H
 have A3 := Aside0.mk A30
 clear A30
 by_cases c4 : (t193.length : Int) = 0
 ·rw [if_pos c4] at H
  have c4b0 : ((t193.length : Int) == 0) = true := beq_iff_eq.mpr c4
  have c4b1 : ((t193.length : Int) != 0) = false := bne_eq_false_iff_eq.mpr c4
  clear c4
  obtain rfl := Option.some.inj H
  go_enter Try.func17, Try.ntmps17
  go_wp2_with (first | ((with_reducible refine gate_dst (N := 2) rfl ?_); refine box_event ?hg (N := 2) ?hd (cs := #[.int .i64 a0_0, .string a0_1, .int .i64 a0_2, .int .i64 a0_3, .slice A0_4 l0_4.length c0_4]) (t := 28) ?hr ?_; (case hd => rfl); (case hg => rfl); (case hr => first | (go_simp; done) | (go_simp; rfl)); intro gb192 hg w5 hbox hb; have n0_ := am (below_step (zL HB.out) hb); have n1_ := am (hbox); have n2_ := am (zS hg HB.out); have n3_ := am (zS hg HB.out); clear HB; have HB := n0_; have BK192 := n1_; have GW192 := n2_; have GE192 := n3_; clear n0_ n1_ n2_ n3_; clear hb hbox hg; obtain ⟨hcz6_0, hcz6_1, hcz6_2, hcz6_3, hcz6_4, hfz6_0, hfz6_1, hfz6_2, hfz6_3, hfz6_4⟩ := b5 BK192.out) | ((with_reducible refine gate_callee (f := 12) rfl ?_); refine goesL_ (some 9) rfl rfl Try.func12 (by kernel_rfl) rfl #[.agg #[.int .i64 a0_0, .string a0_1, .int .i64 a0_2, .int .i64 a0_3, .slice A0_4 l0_4.length c0_4]] rfl mp1 ?_; (with_reducible refine (formula_Atoms.calls k a0_0 a0_1 a0_2 a0_3 _ _ l0_4 t193 _ ?side1 ?side2 A3.out).mono ?_); (case side1 => exact zC (Kd.C_below HR0_4.out HB.out)); (case side2 => exact HC0_4.out); rintro e w7 ⟨v194, rfl, ho0, hb⟩; refine ⟨_, rfl, ?_⟩; have n0_ := am (Kd.R_lower ho0 (below_size (zL HB.out))); have n1_ := am (blk_below (zB BK192.out) hb); have n2_ := am (below_step (zL HB.out) hb); clear BK192 HB; have HO195 := n0_; have BK192 := n1_; have HB := n2_; clear n0_ n1_ n2_; (try clear hb); (try clear hb2); (try clear hk); (try clear hi); (try clear ho0); obtain ⟨Ao8, co8, eo8⟩ := Kd.R_slice HO195.out; subst eo8))
  go_ret
  exact ⟨by first | rfl | (simp [errW_none, errW_some] <;> rfl) | (simp [*, errW_none, errW_some] <;> rfl), by repeat (first | (with_reducible first | exact HB.out | apply ba | apply bd | apply be | refine below_set ?_ GE192.out) | exact HB.out)⟩
 ·rw [if_neg c4] at H
  have c4b0 : ((t193.length : Int) == 0) = false := beq_eq_false_iff_ne.mpr c4
  have c4b1 : ((t193.length : Int) != 0) = true := bne_iff_ne.mpr c4
  have c4b2 : ¬ (t193 = []) := fun h_ => c4 (by rw [h_]; rfl)
  by_cases c9 : 0 ≤ (t193.length : Int)
  ·rw [if_pos c9] at H
   have c9b0 := eq_true c9
   have c9b1 : decide (0 ≤ (t193.length : Int)) = true := decide_eq_true c9
   clear c9
   by_cases c10 : ((t193.length : Int) : Int).toNat ≤ 281474976710656
   ·rw [if_pos c10] at H
    have c10b0 := eq_true c10
    have c10b1 : decide (((t193.length : Int) : Int).toNat ≤ 281474976710656) = true := decide_eq_true c10
    clear c10
    obtain ⟨y196, hy196⟩ : ∃ y_ : List Bool, y_ = (List.replicate ((t193.length : Int) : Int).toNat false) := ⟨_, rfl⟩
    replace H : (formula_Hopeless.l0 k l1 t193 y196 (t193.length : Int) 0 a0_0 a0_1 a0_2 a0_3 l0_4) = some r := by first | (rw [hy196]; with_reducible exact H) | (have H2_ := (Option.bind_some _ _).symm.trans H; rw [hy196]; with_reducible exact H2_) | (have H2_ := (Option.bind_some _ _).symm.trans H; with_reducible exact H2_) | with_reducible exact H | (rw [hy196]; exact H) | exact H
    have Ny196 := Aside0.mk hy196
    clear hy196
    have H' := Aside0.mk H
    clear H
    go_enter Try.func17, Try.ntmps17
    go_wp2_with (first | ((with_reducible refine gate_dst (N := 2) rfl ?_); refine box_event ?hg (N := 2) ?hd (cs := #[.int .i64 a0_0, .string a0_1, .int .i64 a0_2, .int .i64 a0_3, .slice A0_4 l0_4.length c0_4]) (t := 28) ?hr ?_; (case hd => rfl); (case hg => rfl); (case hr => first | (go_simp; done) | (go_simp; rfl)); intro gb192 hg w11 hbox hb; have n0_ := am (below_step (zL HB.out) hb); have n1_ := am (hbox); have n2_ := am (zS hg HB.out); have n3_ := am (zS hg HB.out); clear HB; have HB := n0_; have BK192 := n1_; have GW192 := n2_; have GE192 := n3_; clear n0_ n1_ n2_ n3_; clear hb hbox hg; obtain ⟨hcz12_0, hcz12_1, hcz12_2, hcz12_3, hcz12_4, hfz12_0, hfz12_1, hfz12_2, hfz12_3, hfz12_4⟩ := b5 BK192.out) | ((with_reducible refine gate_callee (f := 12) rfl ?_); refine goesL_ (some 9) rfl rfl Try.func12 (by kernel_rfl) rfl #[.agg #[.int .i64 a0_0, .string a0_1, .int .i64 a0_2, .int .i64 a0_3, .slice A0_4 l0_4.length c0_4]] rfl mp1 ?_; (with_reducible refine (formula_Atoms.calls k a0_0 a0_1 a0_2 a0_3 _ _ l0_4 t193 _ ?side1 ?side2 A3.out).mono ?_); (case side1 => exact zC (Kd.C_below HR0_4.out HB.out)); (case side2 => exact HC0_4.out); rintro e w13 ⟨v194, rfl, ho0, hb⟩; refine ⟨_, rfl, ?_⟩; have n0_ := am (Kd.R_lower ho0 (below_size (zL HB.out))); have n1_ := am (blk_below (zB BK192.out) hb); have n2_ := am (below_step (zL HB.out) hb); clear BK192 HB; have HO195 := n0_; have BK192 := n1_; have HB := n2_; clear n0_ n1_ n2_; (try clear hb); (try clear hb2); (try clear hk); (try clear hi); (try clear ho0); obtain ⟨Ao14, co14, eo14⟩ := Kd.R_slice HO195.out; subst eo14) | ((with_reducible refine gate_dst (N := 15) rfl ?_); refine Kd.R_make Kd.bool _ 4 rfl (N := 15) rfl 33 _ _ rfl (t193.length : Int) rfl rfl Try.underlying33 (.bool false) 1 info4 rfl (by decide) (by omega) false (ok := fun _ => True) (okp := fun _ => True) rfl (fun _ hk => hk) trivial (of_decide_eq_true (by first | (with_reducible assumption) | assumption)) (Nat.le_trans (Nat.mul_le_mul_right _ (of_decide_eq_true (by first | (with_reducible assumption) | assumption) : (t193.length : Int).toNat ≤ 281474976710656)) (by omega)) (Below.refl _ _) (Nat.le_refl _) ?_; intro v197 w15 ho16 hb hg_ hnew_; clear hg_ hnew_; (first | rw [← Ny196.out] at ho16 | (simp only [Int.reduceToNat] at ho16; rw [← Ny196.out] at ho16)); have n0_ := am (Kd.R_below (zR HO195.out) hb); have n1_ := am (Kd.R_lower ho16 (below_size (zL HB.out))); have n2_ := am (blk_below (zB BK192.out) hb); have n3_ := am (below_step (zL HB.out) hb); clear HO195 BK192 HB; have HO195 := n0_; have HO198 := n1_; have BK192 := n2_; have HB := n3_; clear n0_ n1_ n2_ n3_; clear hb ho16))
    go_loopg [18] k (fun kq v18 w' => ∃ (x6_1 : List Bool) (x18_1 : Int), v18 = .int .i64 x18_1 ∧ Aside0 (formula_Hopeless.l0 kq l1 t193 x6_1 (t193.length : Int) x18_1 a0_0 a0_1 a0_2 a0_3 l0_4 = some r) ∧ Aside0 (kq ≤ k) ∧ Aside0 (Kd.R k25 25 w' w.heap.size (fun _ => True) (.slice Ao14 t193.length co14) t193) ∧ Aside0 (Kd.R Kd.bool 4 w' w.heap.size (fun _ => True) v197 x6_1) ∧ Aside0 (w'.heap[gb192]? = some (.cells #[.int .i64 a0_0, .string a0_1, .int .i64 a0_2, .int .i64 a0_3, (.slice A0_4 l0_4.length c0_4)] 28 (0, 0))) ∧ Aside0 (Below w.heap.size w w'))
    case atStart => exact ⟨(y196), (0), (by first | rfl | (simp; done) | (simp [*]; done)), H', ⟨Nat.le_refl _⟩, ⟨by exact zR HO195.out⟩, ⟨by exact zR HO198.out⟩, ⟨by exact zB <| BK192.out⟩, ⟨by repeat (first | (with_reducible first | exact HB.out | apply ba | apply bd | apply be | refine below_set ?_ GE192.out) | exact HB.out)⟩⟩
    case round =>
     clear H'
     try clear c1
     try clear p2
     try clear c4
     try clear c4b0
     try clear c4b1
     try clear c4b2
     try clear c9
     try clear c9b0
     try clear c9b1
     try clear c10
     try clear c10b0
     try clear c10b1
     try clear c12
     try clear hcz12_0
     try clear hcz12_1
     try clear hcz12_2
     try clear hcz12_3
     try clear hcz12_4
     try clear hcz6_0
     try clear hcz6_1
     try clear hcz6_2
     try clear hcz6_3
     try clear hcz6_4
     try clear hfz12_0
     try clear hfz12_1
     try clear hfz12_2
     try clear hfz12_3
     try clear hfz12_4
     try clear hfz6_0
     try clear hfz6_1
     try clear hfz6_2
     try clear hfz6_3
     try clear hfz6_4
     obtain ⟨x6_1, x18_1, rfl, HA, HK1, HO_5, HO_6, BK192, HB⟩ := hrel
     cases gk with
     | zero => exact absurd HA.out (by simp [formula_Hopeless.l0])
     | succ k1 =>
      have H := HA.out
      clear HA
      simp only [formula_Hopeless.l0] at H
      by_cases c17 : x18_1 < (t193.length : Int)
      ·rw [if_pos c17] at H
       have c17b0 : decide (x18_1 < (t193.length : Int)) = true := decide_eq_true c17
       clear c17
       by_cases c18 : x18_1 ≥ (l1.length : Int)
       ·rw [if_pos c18] at H
        have c18b0 : decide ((l1.length : Int) ≤ x18_1) = true := decide_eq_true c18
        clear c18
        by_cases c19 : 0 ≤ x18_1
        ·rw [if_pos c19] at H
         have c19b0 : decide (0 ≤ x18_1) = true := decide_eq_true c19
         clear c19
         by_cases c20 : x18_1 < (x6_1.length : Int)
         ·rw [if_pos c20] at H
          have c20b0 : decide (x18_1 < (x6_1.length : Int)) = true := decide_eq_true c20
          clear c20
          obtain ⟨y199, hy199⟩ : ∃ y_ : List Bool, y_ = (x6_1.set (x18_1 : Int).toNat true) := ⟨_, rfl⟩
          replace H : (formula_Hopeless.l0 k1 l1 t193 y199 (t193.length : Int) (wrap64 (x18_1 + 1)) a0_0 a0_1 a0_2 a0_3 l0_4) = some r := by first | (rw [hy199]; with_reducible exact H) | (have H2_ := (Option.bind_some _ _).symm.trans H; rw [hy199]; with_reducible exact H2_) | (have H2_ := (Option.bind_some _ _).symm.trans H; with_reducible exact H2_) | with_reducible exact H | (rw [hy199]; exact H) | exact H
          have Ny199 := Aside0.mk hy199
          clear hy199
          have H' := Aside0.mk H
          clear H
          have p21 : 0 ≤ (x18_1 : Int) := of_decide_eq_true (by first | (with_reducible assumption) | assumption)
          have q21 : (x18_1 : Int) < ((x6_1.length : Int) : Int) := of_decide_eq_true (by first | (with_reducible assumption) | assumption)
          obtain ⟨go21, co21, eo21, gb21, gl21, cl21, HG21⟩ := Kd.R_form HO_6.out (by omega)
          (first | cases eo21 | (injection eo21 with ea_ en_ ec_; (first | subst ea_ | (injection ea_ with ea_; subst ea_)); subst ec_; clear en_))
          have GB21 := Aside0.mk gb21
          have GG21 := Aside0.mk HG21
          clear gb21 gl21 HG21
          obtain ⟨hx21_0, hf21_0⟩ := Kd.R_celln false HO_6.out (x18_1 : Int) p21 q21
          replace p21 := eq_true p21
          replace q21 := eq_true q21
          have HP22 := Kd.R_putg HO_6.out (x18_1 : Int) true
          go_wp2_with (first | ((with_reducible refine gate_store (t := 4) (p := 34) rfl ?_); refine store_event (t := 4) (p := 34) (v := ?vo_w23) (w1 := (wr.setCell ⟨go21, (x18_1 : Int).toNat, none⟩ (.bool true))) ?hg ?ho ?hn ?hr ?_; (case ho => rfl); (case hg => rfl); (case hn => rfl); (case hr => first | (go_simp; done) | (go_simp; rfl)); intro w23 hw; have hg : wr.grownBy w23 (some go21) := (by rw [hw]; exact HP22.2); have hp_ : Kd.R Kd.bool 4 w23 w.heap.size (fun _ => True) (.slice (some ⟨go21, 0, none⟩) x6_1.length co21) y199 := (by rw [hw, Ny199.out]; exact HP22.1); clear HP22; have n0_ := am (Kd.R_over' (v := (.slice (some ⟨go21, 0, none⟩) x6_1.length co21)) (zR HO_5.out) (Kd.R_typed HO_6.out) (by decide) hg); have n1_ := am (hp_); have n2_ := am (blk_grown (g := gb192) (o := .cells #[.int .i64 a0_0, .string a0_1, .int .i64 a0_2, .int .i64 a0_3, .slice A0_4 l0_4.length c0_4] 28 (0, 0)) (zB BK192.out) hg (Kd.R_ne HO_6.out BK192.out (by decide))); have n3_ := am ((by rw [hw]; exact below_set (HB.out) GB21.out : Below w.heap.size w w23)); clear HO_5 HO_6 BK192 HB; have HO_5 := n0_; have HO_6 := n1_; have BK192 := n2_; have HB := n3_; clear n0_ n1_ n2_ n3_; clear hg hw hp_))
          go_roundg k1
          case measure => have := HK1.out; omega
          case rel => exact ⟨(y199), (wrap64 (x18_1 + 1)), (by first | rfl | (simp; done) | (simp [*]; done)), H', ⟨by have := HK1.out; omega⟩, ⟨by exact zR HO_5.out⟩, ⟨by exact zR HO_6.out⟩, ⟨by exact zB <| BK192.out⟩, ⟨by repeat (first | (with_reducible first | exact HB.out | apply ba | apply bd | apply be | refine below_set ?_ GE192.out) | exact HB.out)⟩⟩
         ·rw [if_neg c20] at H
          exact absurd H (by simp)
        ·rw [if_neg c19] at H
         exact absurd H (by simp)
       ·rw [if_neg c18] at H
        have c18b0 : decide ((l1.length : Int) ≤ x18_1) = false := decide_eq_false c18
        clear c18
        by_cases c24 : 0 ≤ x18_1
        ·rw [if_pos c24] at H
         have c24b0 : decide (0 ≤ x18_1) = true := decide_eq_true c24
         clear c24
         by_cases c25 : x18_1 < (l1.length : Int)
         ·rw [if_pos c25] at H
          have c25b0 : decide (x18_1 < (l1.length : Int)) = true := decide_eq_true c25
          clear c25
          by_cases c26 : x18_1 < (x6_1.length : Int)
          ·rw [if_pos c26] at H
           have c26b0 : decide (x18_1 < (x6_1.length : Int)) = true := decide_eq_true c26
           clear c26
           obtain ⟨y201, hy201⟩ : ∃ y_ : List Bool, y_ = (x6_1.set (x18_1 : Int).toNat (!(rdOf false l1 x18_1))) := ⟨_, rfl⟩
           replace H : (formula_Hopeless.l0 k1 l1 t193 y201 (t193.length : Int) (wrap64 (x18_1 + 1)) a0_0 a0_1 a0_2 a0_3 l0_4) = some r := by first | (rw [hy201]; with_reducible exact H) | (have H2_ := (Option.bind_some _ _).symm.trans H; rw [hy201]; with_reducible exact H2_) | (have H2_ := (Option.bind_some _ _).symm.trans H; with_reducible exact H2_) | with_reducible exact H | (rw [hy201]; exact H) | exact H
           have Ny201 := Aside0.mk hy201
           clear hy201
           have H' := Aside0.mk H
           clear H
           have p200 : 0 ≤ (x18_1 : Int) := of_decide_eq_true (by first | (with_reducible assumption) | assumption)
           have q200 : x18_1 < (l1.length : Int) := of_decide_eq_true (by first | (with_reducible assumption) | assumption)
           obtain ⟨ad200, e200, hx200_0⟩ := Kd.at_bool HR1.out x18_1 p200 q200
           cases e200
           replace hx200_0 := (HB.out.cell (World.block_lt_of_cell? w _ hx200_0)).trans hx200_0
           replace p200 := eq_true p200
           replace q200 := eq_true q200
           have p27 : 0 ≤ (x18_1 : Int) := of_decide_eq_true (by first | (with_reducible assumption) | assumption)
           have q27 : (x18_1 : Int) < ((x6_1.length : Int) : Int) := of_decide_eq_true (by first | (with_reducible assumption) | assumption)
           obtain ⟨go27, co27, eo27, gb27, gl27, cl27, HG27⟩ := Kd.R_form HO_6.out (by omega)
           (first | cases eo27 | (injection eo27 with ea_ en_ ec_; (first | subst ea_ | (injection ea_ with ea_; subst ea_)); subst ec_; clear en_))
           have GB27 := Aside0.mk gb27
           have GG27 := Aside0.mk HG27
           clear gb27 gl27 HG27
           obtain ⟨hx27_0, hf27_0⟩ := Kd.R_celln false HO_6.out (x18_1 : Int) p27 q27
           replace p27 := eq_true p27
           replace q27 := eq_true q27
           have HP28 := Kd.R_putg HO_6.out (x18_1 : Int) (!(rdOf false l1 x18_1))
           go_wp2_with (first | ((with_reducible refine gate_store (t := 4) (p := 34) rfl ?_); refine store_event (t := 4) (p := 34) (v := ?vo_w29) (w1 := (wr.setCell ⟨go27, (x18_1 : Int).toNat, none⟩ (.bool (!(rdOf false l1 x18_1))))) ?hg ?ho ?hn ?hr ?_; (case ho => rfl); (case hg => rfl); (case hn => rfl); (case hr => first | (go_simp; done) | (go_simp; rfl)); intro w29 hw; have hg : wr.grownBy w29 (some go27) := (by rw [hw]; exact HP28.2); have hp_ : Kd.R Kd.bool 4 w29 w.heap.size (fun _ => True) (.slice (some ⟨go27, 0, none⟩) x6_1.length co27) y201 := (by rw [hw, Ny201.out]; exact HP28.1); clear HP28; have n0_ := am (Kd.R_over' (v := (.slice (some ⟨go27, 0, none⟩) x6_1.length co27)) (zR HO_5.out) (Kd.R_typed HO_6.out) (by decide) hg); have n1_ := am (hp_); have n2_ := am (blk_grown (g := gb192) (o := .cells #[.int .i64 a0_0, .string a0_1, .int .i64 a0_2, .int .i64 a0_3, .slice A0_4 l0_4.length c0_4] 28 (0, 0)) (zB BK192.out) hg (Kd.R_ne HO_6.out BK192.out (by decide))); have n3_ := am ((by rw [hw]; exact below_set (HB.out) GB27.out : Below w.heap.size w w29)); clear HO_5 HO_6 BK192 HB; have HO_5 := n0_; have HO_6 := n1_; have BK192 := n2_; have HB := n3_; clear n0_ n1_ n2_ n3_; clear hg hw hp_))
           go_roundg k1
           case measure => have := HK1.out; omega
           case rel => exact ⟨(y201), (wrap64 (x18_1 + 1)), (by first | rfl | (simp; done) | (simp [*]; done)), H', ⟨by have := HK1.out; omega⟩, ⟨by exact zR HO_5.out⟩, ⟨by exact zR HO_6.out⟩, ⟨by exact zB <| BK192.out⟩, ⟨by repeat (first | (with_reducible first | exact HB.out | apply ba | apply bd | apply be | refine below_set ?_ GE192.out) | exact HB.out)⟩⟩
          ·rw [if_neg c26] at H
           exact absurd H (by simp)
         ·rw [if_neg c25] at H
          exact absurd H (by simp)
        ·rw [if_neg c24] at H
         exact absurd H (by simp)
      ·rw [if_neg c17] at H
       have c17b0 : decide (x18_1 < (t193.length : Int)) = false := decide_eq_false c17
       clear c17
       replace H := Option.bind_eq_some_iff.mp H
       obtain ⟨t202, A300, H⟩ := H
       replace H : (some (!t202)) = some r := H
       have A30 := Aside0.mk A300
       clear A300
       obtain rfl := Option.some.inj H
       obtain ⟨hcz31_0, hcz31_1, hcz31_2, hcz31_3, hcz31_4, hfz31_0, hfz31_1, hfz31_2, hfz31_3, hfz31_4⟩ := b5 BK192.out
       obtain ⟨Ao32, co32, eo32⟩ := Kd.R_slice HO_6.out
       subst eo32
       go_wp2_with (first | ((with_reducible refine gate_callee (f := 33) rfl ?_); refine goesL_ (some 39) rfl rfl Try.func33 (by kernel_rfl) rfl #[.agg #[.int .i64 a0_0, .string a0_1, .int .i64 a0_2, .int .i64 a0_3, .slice A0_4 l0_4.length c0_4], .slice Ao14 t193.length co14, .slice Ao32 x6_1.length co32] rfl mp3 ?_; (with_reducible refine (formula_holds.calls k1 a0_0 a0_1 a0_2 a0_3 _ _ l0_4 _ _ t193 _ _ x6_1 t202 _ ?side1 ?side2 ?side3 ?side4 ?side5 ?side6 A30.out).mono ?_); (case side1 => exact zC (Kd.C_below HR0_4.out HB.out)); (case side2 => exact HC0_4.out); (case side3 => exact zC (Kd.R_reads' HO_5.out).2.2); (case side4 => exact (Kd.R_reads' HO_5.out).2.1); (case side5 => exact zC (Kd.R_reads' HO_6.out).2.2); (case side6 => exact (Kd.R_reads' HO_6.out).2.1); rintro e w33 ⟨rfl, hb⟩; refine ⟨_, rfl, ?_⟩; have n0_ := am (Kd.R_below (zR HO_5.out) hb); have n1_ := am (Kd.R_below (zR HO_6.out) hb); have n2_ := am (blk_below (zB BK192.out) hb); have n3_ := am (below_step (zL HB.out) hb); clear HO_5 HO_6 BK192 HB; have HO_5 := n0_; have HO_6 := n1_; have BK192 := n2_; have HB := n3_; clear n0_ n1_ n2_ n3_; (try clear hb); (try clear hb2); (try clear hk); (try clear hi)))
       go_ret
       exact ⟨by first | rfl | (simp [errW_none, errW_some] <;> rfl) | (simp [*, errW_none, errW_some] <;> rfl), by repeat (first | (with_reducible first | exact HB.out | apply ba | apply bd | apply be | refine below_set ?_ GE192.out) | exact HB.out)⟩
   ·rw [if_neg c10] at H
    exact absurd H (by simp)
  ·rw [if_neg c9] at H
   exact absurd H (by simp)

/-! ### formula_Prune: function 24 -/
def formula_Prune.l0 : Nat → List (S25) → List Bool → Int → Int → ByteArray → Int → Int → List (S28) → Option (List Bool)
 | 0, _, _, _, _, _, _, _, _ => none
 | k + 1, x5, x6, x7, x204000, x204001, x204002, x204003, x204004 => if x7 ≥ 0 then (if 0 ≤ x7 then (if x7 < (x6.length : Int) then (if rdOf false x6 x7 = true then ((some (x6.set (x7 : Int).toNat false : List Bool)).bind fun y213 => ((formula_holds.f k x204000 x204001 x204002 x204003 x204004 x5 y213).bind fun t214 => (formula_Prune.l0 k x5 (y213.set (x7 : Int).toNat (!t214)) (wrap64 (x7 - 1)) x204000 x204001 x204002 x204003 x204004))) else (formula_Prune.l0 k x5 x6 (wrap64 (x7 - 1)) x204000 x204001 x204002 x204003 x204004)) else (none)) else (none)) else (some x6)
def formula_Prune.f (k : Nat) (a0_0 : Int) (a0_1 : ByteArray) (a0_2 : Int) (a0_3 : Int) (l0_4 : List (S28)) (l1 : List Bool) : Option (List Bool) := (formula_Atoms.f k a0_0 a0_1 a0_2 a0_3 l0_4).bind fun t204 => (if (t204.length : Int) = 0 then (some ([] : List Bool)) else (if 0 ≤ (t204.length : Int) then (if ((t204.length : Int) : Int).toNat ≤ 281474976710656 then ((some (List.replicate ((t204.length : Int) : Int).toNat false : List Bool)).bind fun y207 => ((formula_holds.f k a0_0 a0_1 a0_2 a0_3 l0_4 t204 l1).bind fun t210 => (if t210 = true then (formula_Prune.l0 k t204 (Xw.cpyL y207 l1) (wrap64 ((t204.length : Int) - 1)) a0_0 a0_1 a0_2 a0_3 l0_4) else (some y207)))) else (none)) else (none)))
theorem formula_Prune.mono_l : ∀ k, (∀ y0 y1 y2 y3 y4 y5 y6 y7, LeO (formula_Prune.l0 k y0 y1 y2 y3 y4 y5 y6 y7) (formula_Prune.l0 (k + 1) y0 y1 y2 y3 y4 y5 y6 y7))
 | 0 => fun _ _ _ _ _ _ _ _ r h => by simp [formula_Prune.l0] at h
 | k + 1 => by
  have ih0 := formula_Prune.mono_l k
  ·intro y0 y1 y2 y3 y4 y5 y6 y7
   unfold formula_Prune.l0
   repeat' first
   | (with_reducible exact ih0 _ _ _ _ _ _ _ _)
   | (with_reducible exact formula_Atoms.mono _ _ _ _ _ _)
   | (with_reducible exact formula_holds.mono _ _ _ _ _ _ _ _)
   | (with_reducible exact LeO.refl _)
   | (with_reducible exact LeO.none _)
   | (with_reducible refine LeO.ite ?_ ?_)
   | (with_reducible refine LeO.bind ?_ (fun _ => ?_))
   | exact ih0 _ _ _ _ _ _ _ _
   | exact formula_Atoms.mono _ _ _ _ _ _
   | exact formula_holds.mono _ _ _ _ _ _ _ _
   | exact LeO.none _
   | refine LeO.ite ?_ ?_
   | refine LeO.bind ?_ (fun _ => ?_)
theorem formula_Prune.mono : ∀ a0 a1 a2 a3 a4 a5 k, LeO (formula_Prune.f k a0 a1 a2 a3 a4 a5) (formula_Prune.f (k + 1) a0 a1 a2 a3 a4 a5) := by
 intro a0 a1 a2 a3 a4 a5 k
 have ih0 := formula_Prune.mono_l k
 unfold formula_Prune.f
 repeat' first
   | (with_reducible exact ih0 _ _ _ _ _ _ _ _)
   | (with_reducible exact formula_Atoms.mono _ _ _ _ _ _)
   | (with_reducible exact formula_holds.mono _ _ _ _ _ _ _ _)
   | (with_reducible exact LeO.refl _)
   | (with_reducible exact LeO.none _)
   | (with_reducible refine LeO.ite ?_ ?_)
   | (with_reducible refine LeO.bind ?_ (fun _ => ?_))
   | exact ih0 _ _ _ _ _ _ _ _
   | exact formula_Atoms.mono _ _ _ _ _ _
   | exact formula_holds.mono _ _ _ _ _ _ _ _
   | exact LeO.none _
   | refine LeO.ite ?_ ?_
   | refine LeO.bind ?_ (fun _ => ?_)
set_option maxHeartbeats 8000000 in
set_option maxRecDepth 100000 in
theorem formula_Prune.calls (k : Nat) (a0_0 : Int) (a0_1 : ByteArray) (a0_2 : Int) (a0_3 : Int) (A0_4 : Option Addr) (c0_4 : Nat) (l0_4 : List (S28)) (A1 : Option Addr) (c1 : Nat) (l1 : List Bool) (r : List Bool) (w : World) (hr0_4 : Kd.C k28 w A0_4 l0_4.length l0_4) (hc0_4 : l0_4.length ≤ c0_4) (hr1 : Kd.C Kd.bool w A1 l1.length l1) (hc1 : l1.length ≤ c1) (h : formula_Prune.f k a0_0 a0_1 a0_2 a0_3 l0_4 l1 = some r) :
  Calls Try.prog 24 #[.agg #[.int .i64 a0_0, .string a0_1, .int .i64 a0_2, .int .i64 a0_3, .slice A0_4 l0_4.length c0_4], .slice A1 l1.length c1] w fun e w' => ∃ v0_ : Value, e = .returned (v0_) ∧ Kd.R Kd.bool 4 w' w.heap.size (fun _ => True) v0_ r ∧ Below w.heap.size w w' := by
 have hu28 := Try.underlying28
 have HR0_4 := Aside0.mk hr0_4
 have HC0_4 := Aside0.mk hc0_4
 clear hr0_4 hc0_4
 have HR1 := Aside0.mk hr1
 have HC1 := Aside0.mk hc1
 clear hr1 hc1
 have HB := am (Below.refl w.heap.size w)
 have H : ((formula_Atoms.f k a0_0 a0_1 a0_2 a0_3 l0_4).bind fun t204 => (if (t204.length : Int) = 0 then (some ([] : List Bool)) else (if 0 ≤ (t204.length : Int) then (if ((t204.length : Int) : Int).toNat ≤ 281474976710656 then ((some (List.replicate ((t204.length : Int) : Int).toNat false : List Bool)).bind fun y207 => ((formula_holds.f k a0_0 a0_1 a0_2 a0_3 l0_4 t204 l1).bind fun t210 => (if t210 = true then (formula_Prune.l0 k t204 (Xw.cpyL y207 l1) (wrap64 ((t204.length : Int) - 1)) a0_0 a0_1 a0_2 a0_3 l0_4) else (some y207)))) else (none)) else (none)))) = some r := h
 clear h
 replace H := Option.bind_eq_some_iff.mp H
 obtain ⟨t204, A30, H⟩ := H
 replace H : (if (t204.length : Int) = 0 then (some ([] : List Bool)) else (if 0 ≤ (t204.length : Int) then (if ((t204.length : Int) : Int).toNat ≤ 281474976710656 then ((some (List.replicate ((t204.length : Int) : Int).toNat false : List Bool)).bind fun y207 => ((formula_holds.f k a0_0 a0_1 a0_2 a0_3 l0_4 t204 l1).bind fun t210 => (if t210 = true then (formula_Prune.l0 k t204 (Xw.cpyL y207 l1) (wrap64 ((t204.length : Int) - 1)) a0_0 a0_1 a0_2 a0_3 l0_4) else (some y207)))) else (none)) else (none))) = some r := H
 have A3 := Aside0.mk A30
 clear A30
 by_cases c4 : (t204.length : Int) = 0
 ·rw [if_pos c4] at H
  have c4b0 : ((t204.length : Int) == 0) = true := beq_iff_eq.mpr c4
  have c4b1 : ((t204.length : Int) != 0) = false := bne_eq_false_iff_eq.mpr c4
  clear c4
  obtain rfl := Option.some.inj H
  go_enter Try.func24, Try.ntmps24
  go_wp2_with (first | ((with_reducible refine gate_dst (N := 2) rfl ?_); refine box_event ?hg (N := 2) ?hd (cs := #[.int .i64 a0_0, .string a0_1, .int .i64 a0_2, .int .i64 a0_3, .slice A0_4 l0_4.length c0_4]) (t := 28) ?hr ?_; (case hd => rfl); (case hg => rfl); (case hr => first | (go_simp; done) | (go_simp; rfl)); intro gb203 hg w5 hbox hb; have n0_ := am (below_step (zL HB.out) hb); have n1_ := am (hbox); have n2_ := am (zS hg HB.out); have n3_ := am (zS hg HB.out); clear HB; have HB := n0_; have BK203 := n1_; have GW203 := n2_; have GE203 := n3_; clear n0_ n1_ n2_ n3_; clear hb hbox hg; obtain ⟨hcz6_0, hcz6_1, hcz6_2, hcz6_3, hcz6_4, hfz6_0, hfz6_1, hfz6_2, hfz6_3, hfz6_4⟩ := b5 BK203.out) | ((with_reducible refine gate_callee (f := 12) rfl ?_); refine goesL_ (some 9) rfl rfl Try.func12 (by kernel_rfl) rfl #[.agg #[.int .i64 a0_0, .string a0_1, .int .i64 a0_2, .int .i64 a0_3, .slice A0_4 l0_4.length c0_4]] rfl mp1 ?_; (with_reducible refine (formula_Atoms.calls k a0_0 a0_1 a0_2 a0_3 _ _ l0_4 t204 _ ?side1 ?side2 A3.out).mono ?_); (case side1 => exact zC (Kd.C_below HR0_4.out HB.out)); (case side2 => exact HC0_4.out); rintro e w7 ⟨v205, rfl, ho0, hb⟩; refine ⟨_, rfl, ?_⟩; have n0_ := am (Kd.R_lower ho0 (below_size (zL HB.out))); have n1_ := am (blk_below (zB BK203.out) hb); have n2_ := am (below_step (zL HB.out) hb); clear BK203 HB; have HO206 := n0_; have BK203 := n1_; have HB := n2_; clear n0_ n1_ n2_; (try clear hb); (try clear hb2); (try clear hk); (try clear hi); (try clear ho0); obtain ⟨Ao8, co8, eo8⟩ := Kd.R_slice HO206.out; subst eo8))
  go_ret
  exact ⟨_, by first | rfl | (simp [errW_none, errW_some] <;> rfl) | (simp [*, errW_none, errW_some] <;> rfl), by first | exact Kd.R_nil _ _ _ _ _ | exact Kd.N_nil _ _ _ _ _ | exact Kd.V_nil _ _ _ _ _ | exact Kd.Q_nil _ _ _ _ _ | exact Kd.S_nil _ _ _ _ _, by repeat (first | (with_reducible first | exact HB.out | apply ba | apply bd | apply be | refine below_set ?_ GE203.out) | exact HB.out)⟩
 ·rw [if_neg c4] at H
  have c4b0 : ((t204.length : Int) == 0) = false := beq_eq_false_iff_ne.mpr c4
  have c4b1 : ((t204.length : Int) != 0) = true := bne_iff_ne.mpr c4
  have c4b2 : ¬ (t204 = []) := fun h_ => c4 (by rw [h_]; rfl)
  by_cases c9 : 0 ≤ (t204.length : Int)
  ·rw [if_pos c9] at H
   have c9b0 := eq_true c9
   have c9b1 : decide (0 ≤ (t204.length : Int)) = true := decide_eq_true c9
   clear c9
   by_cases c10 : ((t204.length : Int) : Int).toNat ≤ 281474976710656
   ·rw [if_pos c10] at H
    have c10b0 := eq_true c10
    have c10b1 : decide (((t204.length : Int) : Int).toNat ≤ 281474976710656) = true := decide_eq_true c10
    clear c10
    obtain ⟨y207, hy207⟩ : ∃ y_ : List Bool, y_ = (List.replicate ((t204.length : Int) : Int).toNat false) := ⟨_, rfl⟩
    replace H : ((formula_holds.f k a0_0 a0_1 a0_2 a0_3 l0_4 t204 l1).bind fun t210 => (if t210 = true then (formula_Prune.l0 k t204 (Xw.cpyL y207 l1) (wrap64 ((t204.length : Int) - 1)) a0_0 a0_1 a0_2 a0_3 l0_4) else (some y207))) = some r := by first | (rw [hy207]; with_reducible exact H) | (have H2_ := (Option.bind_some _ _).symm.trans H; rw [hy207]; with_reducible exact H2_) | (have H2_ := (Option.bind_some _ _).symm.trans H; with_reducible exact H2_) | with_reducible exact H | (rw [hy207]; exact H) | exact H
    have Ny207 := Aside0.mk hy207
    clear hy207
    replace H := Option.bind_eq_some_iff.mp H
    obtain ⟨t210, A110, H⟩ := H
    replace H : (if t210 = true then (formula_Prune.l0 k t204 (Xw.cpyL y207 l1) (wrap64 ((t204.length : Int) - 1)) a0_0 a0_1 a0_2 a0_3 l0_4) else (some y207)) = some r := H
    have A11 := Aside0.mk A110
    clear A110
    by_cases c12 : t210 = true
    ·subst c12
     have H1 : (formula_Prune.l0 k t204 (Xw.cpyL y207 l1) (wrap64 ((t204.length : Int) - 1)) a0_0 a0_1 a0_2 a0_3 l0_4) = some r := by rw [if_pos rfl] at H; exact H
     clear H
     have H := H1
     clear H1
     obtain ⟨y211, hy211⟩ : ∃ y_ : List Bool, y_ = (Xw.cpyL y207 l1) := ⟨_, rfl⟩
     replace H : (formula_Prune.l0 k t204 y211 (wrap64 ((t204.length : Int) - 1)) a0_0 a0_1 a0_2 a0_3 l0_4) = some r := by first | (rw [hy211]; with_reducible exact H) | (have H2_ := (Option.bind_some _ _).symm.trans H; rw [hy211]; with_reducible exact H2_) | (have H2_ := (Option.bind_some _ _).symm.trans H; with_reducible exact H2_) | with_reducible exact H | (rw [hy211]; exact H) | exact H
     have Ny211 := Aside0.mk hy211
     clear hy211
     have H' := Aside0.mk H
     clear H
     go_enter Try.func24, Try.ntmps24
     go_wp2_with (first | ((with_reducible refine gate_dst (N := 2) rfl ?_); refine box_event ?hg (N := 2) ?hd (cs := #[.int .i64 a0_0, .string a0_1, .int .i64 a0_2, .int .i64 a0_3, .slice A0_4 l0_4.length c0_4]) (t := 28) ?hr ?_; (case hd => rfl); (case hg => rfl); (case hr => first | (go_simp; done) | (go_simp; rfl)); intro gb203 hg w13 hbox hb; have n0_ := am (below_step (zL HB.out) hb); have n1_ := am (hbox); have n2_ := am (zS hg HB.out); have n3_ := am (zS hg HB.out); clear HB; have HB := n0_; have BK203 := n1_; have GW203 := n2_; have GE203 := n3_; clear n0_ n1_ n2_ n3_; clear hb hbox hg; obtain ⟨hcz14_0, hcz14_1, hcz14_2, hcz14_3, hcz14_4, hfz14_0, hfz14_1, hfz14_2, hfz14_3, hfz14_4⟩ := b5 BK203.out) | ((with_reducible refine gate_callee (f := 12) rfl ?_); refine goesL_ (some 9) rfl rfl Try.func12 (by kernel_rfl) rfl #[.agg #[.int .i64 a0_0, .string a0_1, .int .i64 a0_2, .int .i64 a0_3, .slice A0_4 l0_4.length c0_4]] rfl mp1 ?_; (with_reducible refine (formula_Atoms.calls k a0_0 a0_1 a0_2 a0_3 _ _ l0_4 t204 _ ?side1 ?side2 A3.out).mono ?_); (case side1 => exact zC (Kd.C_below HR0_4.out HB.out)); (case side2 => exact HC0_4.out); rintro e w15 ⟨v205, rfl, ho0, hb⟩; refine ⟨_, rfl, ?_⟩; have n0_ := am (Kd.R_lower ho0 (below_size (zL HB.out))); have n1_ := am (blk_below (zB BK203.out) hb); have n2_ := am (below_step (zL HB.out) hb); clear BK203 HB; have HO206 := n0_; have BK203 := n1_; have HB := n2_; clear n0_ n1_ n2_; (try clear hb); (try clear hb2); (try clear hk); (try clear hi); (try clear ho0); obtain ⟨Ao16, co16, eo16⟩ := Kd.R_slice HO206.out; subst eo16) | ((with_reducible refine gate_dst (N := 15) rfl ?_); refine Kd.R_make Kd.bool _ 4 rfl (N := 15) rfl 33 _ _ rfl (t204.length : Int) rfl rfl Try.underlying33 (.bool false) 1 info4 rfl (by decide) (by omega) false (ok := fun _ => True) (okp := fun _ => True) rfl (fun _ hk => hk) trivial (of_decide_eq_true (by first | (with_reducible assumption) | assumption)) (Nat.le_trans (Nat.mul_le_mul_right _ (of_decide_eq_true (by first | (with_reducible assumption) | assumption) : (t204.length : Int).toNat ≤ 281474976710656)) (by omega)) (Below.refl _ _) (Nat.le_refl _) ?_; intro v208 w17 ho18 hb hg_ hnew_; clear hg_ hnew_; (first | rw [← Ny207.out] at ho18 | (simp only [Int.reduceToNat] at ho18; rw [← Ny207.out] at ho18)); have n0_ := am (Kd.R_below (zR HO206.out) hb); have n1_ := am (Kd.R_lower ho18 (below_size (zL HB.out))); have n2_ := am (blk_below (zB BK203.out) hb); have n3_ := am (below_step (zL HB.out) hb); clear HO206 BK203 HB; have HO206 := n0_; have HO209 := n1_; have BK203 := n2_; have HB := n3_; clear n0_ n1_ n2_ n3_; clear hb ho18; obtain ⟨hcz19_0, hcz19_1, hcz19_2, hcz19_3, hcz19_4, hfz19_0, hfz19_1, hfz19_2, hfz19_3, hfz19_4⟩ := b5 BK203.out) | ((with_reducible refine gate_callee (f := 33) rfl ?_); refine goesL_ (some 19) rfl rfl Try.func33 (by kernel_rfl) rfl #[.agg #[.int .i64 a0_0, .string a0_1, .int .i64 a0_2, .int .i64 a0_3, .slice A0_4 l0_4.length c0_4], .slice Ao16 t204.length co16, .slice A1 l1.length c1] rfl mp3 ?_; (with_reducible refine (formula_holds.calls k a0_0 a0_1 a0_2 a0_3 _ _ l0_4 _ _ t204 _ _ l1 true _ ?side1 ?side2 ?side3 ?side4 ?side5 ?side6 A11.out).mono ?_); (case side1 => exact zC (Kd.C_below HR0_4.out HB.out)); (case side2 => exact HC0_4.out); (case side3 => exact zC (Kd.R_reads' HO206.out).2.2); (case side4 => exact (Kd.R_reads' HO206.out).2.1); (case side5 => exact zC (Kd.C_below HR1.out HB.out)); (case side6 => exact HC1.out); rintro e w20 ⟨rfl, hb⟩; refine ⟨_, rfl, ?_⟩; have n0_ := am (Kd.R_below (zR HO206.out) hb); have n1_ := am (Kd.R_below (zR HO209.out) hb); have n2_ := am (blk_below (zB BK203.out) hb); have n3_ := am (below_step (zL HB.out) hb); clear HO206 HO209 BK203 HB; have HO206 := n0_; have HO209 := n1_; have BK203 := n2_; have HB := n3_; clear n0_ n1_ n2_ n3_; (try clear hb); (try clear hb2); (try clear hk); (try clear hi); obtain ⟨Ao23, co23, eo23⟩ := Kd.R_slice HO209.out; subst eo23) | ((with_reducible refine gate_builtin (b := .copy) (xs := #[.tmp 22, .tmp 23]) rfl ?_); refine Xw.R_copy_ev (w0 := w) (ok := (fun _ => True)) (xs := y207) (ys := l1) rfl (.tmp 22) (.tmp 23) 33 4 rfl Try.underlying33 info4 rfl rfl (zR HO209.out) ?cS ?cB ?cW ?_; (case cS => exact zC (Kd.C_below HR1.out HB.out)); (case cB => exact (zL HB.out)); (case cW => exact ((below_size (zL HB.out)))); intro kc_ w22 hp0_ hbz_ hg; have hp_ : Kd.R Kd.bool 4 w22 w.heap.size (fun _ => True) (.slice Ao23 y207.length co23) y211 := (by rw [Ny211.out]; exact hp0_); clear hp0_; have n0_ := am (blk_grown (g := gb203) (o := .cells #[.int .i64 a0_0, .string a0_1, .int .i64 a0_2, .int .i64 a0_3, .slice A0_4 l0_4.length c0_4] 28 (0, 0)) (zB BK203.out) hg (Kd.R_ne HO209.out BK203.out (by decide))); have n1_ := am (Kd.R_over' (v := (.slice Ao23 y207.length co23)) (zR HO206.out) (Kd.R_typed HO209.out) (by decide) hg); have n2_ := am (hp_); have n3_ := am (hbz_); clear BK203 HO206 HO209 HB; have BK203 := n0_; have HO206 := n1_; have HO209 := n2_; have HB := n3_; clear n0_ n1_ n2_ n3_; clear hg hp_ hbz_))
     go_loopg [7] k (fun kq v7 w' => ∃ (x6_1 : List Bool) (x7_1 : Int), v7 = .int .i64 x7_1 ∧ Aside0 (formula_Prune.l0 kq t204 x6_1 x7_1 a0_0 a0_1 a0_2 a0_3 l0_4 = some r) ∧ Aside0 (kq ≤ k) ∧ Aside0 (Kd.R k25 25 w' w.heap.size (fun _ => True) (.slice Ao16 t204.length co16) t204) ∧ Aside0 (Kd.R Kd.bool 4 w' w.heap.size (fun _ => True) (.slice Ao23 y207.length co23) x6_1) ∧ Aside0 (w'.heap[gb203]? = some (.cells #[.int .i64 a0_0, .string a0_1, .int .i64 a0_2, .int .i64 a0_3, (.slice A0_4 l0_4.length c0_4)] 28 (0, 0))) ∧ Aside0 (Below w.heap.size w w'))
     case atStart => exact ⟨(y211), (wrap64 ((t204.length : Int) - 1)), (by first | rfl | (simp; done) | (simp [*]; done)), H', ⟨Nat.le_refl _⟩, ⟨by exact zR HO206.out⟩, ⟨by exact zR HO209.out⟩, ⟨by exact zB <| BK203.out⟩, ⟨by repeat (first | (with_reducible first | exact HB.out | apply ba | apply bd | apply be | refine below_set ?_ GE203.out) | exact HB.out)⟩⟩
     case round =>
      clear H'
      try clear c1
      try clear c2
      try clear p2
      try clear c3
      try clear c4
      try clear c4b0
      try clear c4b1
      try clear c4b2
      try clear p6
      try clear c9
      try clear c9b0
      try clear c9b1
      try clear c10
      try clear c10b0
      try clear c10b1
      try clear c12
      try clear hcz14_0
      try clear hcz14_1
      try clear hcz14_2
      try clear hcz14_3
      try clear hcz14_4
      try clear hcz19_0
      try clear hcz19_1
      try clear hcz19_2
      try clear hcz19_3
      try clear hcz19_4
      try clear hcz6_0
      try clear hcz6_1
      try clear hcz6_2
      try clear hcz6_3
      try clear hcz6_4
      try clear hfz14_0
      try clear hfz14_1
      try clear hfz14_2
      try clear hfz14_3
      try clear hfz14_4
      try clear hfz19_0
      try clear hfz19_1
      try clear hfz19_2
      try clear hfz19_3
      try clear hfz19_4
      try clear hfz6_0
      try clear hfz6_1
      try clear hfz6_2
      try clear hfz6_3
      try clear hfz6_4
      obtain ⟨x6_1, x7_1, rfl, HA, HK1, HO_5, HO_6, BK203, HB⟩ := hrel
      have hl6_1 := (Kd.R_reads' HO_6.out).1
      rw [hl6_1] at HO_6
      (try simp only [hl6_1])
      (try simp only [hl6_1] at BK203)
      (try simp only [hl6_1] at HO_5)
      cases gk with
      | zero => exact absurd HA.out (by simp [formula_Prune.l0])
      | succ k1 =>
       have H := HA.out
       clear HA
       simp only [formula_Prune.l0] at H
       by_cases c24 : x7_1 ≥ 0
       ·rw [if_pos c24] at H
        have c24b0 : decide (0 ≤ x7_1) = true := decide_eq_true c24
        clear c24
        by_cases c25 : 0 ≤ x7_1
        ·rw [if_pos c25] at H
         have c25b0 : decide (0 ≤ x7_1) = true := decide_eq_true c25
         clear c25
         by_cases c26 : x7_1 < (x6_1.length : Int)
         ·rw [if_pos c26] at H
          have c26b0 : decide (x7_1 < (x6_1.length : Int)) = true := decide_eq_true c26
          clear c26
          obtain ⟨bq27, hbq27⟩ : ∃ b_ : Bool, b_ = (rdOf false x6_1 x7_1) := ⟨_, rfl⟩
          replace H : (if bq27 = true then ((some (x6_1.set (x7_1 : Int).toNat false : List Bool)).bind fun y213 => ((formula_holds.f k1 a0_0 a0_1 a0_2 a0_3 l0_4 t204 y213).bind fun t214 => (formula_Prune.l0 k1 t204 (y213.set (x7_1 : Int).toNat (!t214)) (wrap64 (x7_1 - 1)) a0_0 a0_1 a0_2 a0_3 l0_4))) else (formula_Prune.l0 k1 t204 x6_1 (wrap64 (x7_1 - 1)) a0_0 a0_1 a0_2 a0_3 l0_4)) = some r := by rw [← hbq27] at H; exact H
          have Nbq27 := Aside0.mk hbq27
          clear hbq27
          by_cases c28 : bq27 = true
          ·subst c28
           have H1 : ((some (x6_1.set (x7_1 : Int).toNat false : List Bool)).bind fun y213 => ((formula_holds.f k1 a0_0 a0_1 a0_2 a0_3 l0_4 t204 y213).bind fun t214 => (formula_Prune.l0 k1 t204 (y213.set (x7_1 : Int).toNat (!t214)) (wrap64 (x7_1 - 1)) a0_0 a0_1 a0_2 a0_3 l0_4))) = some r := by rw [if_pos rfl] at H; exact H
           clear H
           have H := H1
           clear H1
           obtain ⟨y213, hy213⟩ : ∃ y_ : List Bool, y_ = (x6_1.set (x7_1 : Int).toNat false) := ⟨_, rfl⟩
           replace H : ((formula_holds.f k1 a0_0 a0_1 a0_2 a0_3 l0_4 t204 y213).bind fun t214 => (formula_Prune.l0 k1 t204 (y213.set (x7_1 : Int).toNat (!t214)) (wrap64 (x7_1 - 1)) a0_0 a0_1 a0_2 a0_3 l0_4)) = some r := by first | (rw [hy213]; with_reducible exact H) | (have H2_ := (Option.bind_some _ _).symm.trans H; rw [hy213]; with_reducible exact H2_) | (have H2_ := (Option.bind_some _ _).symm.trans H; with_reducible exact H2_) | with_reducible exact H | (rw [hy213]; exact H) | exact H
           have Ny213 := Aside0.mk hy213
           clear hy213
           replace H := Option.bind_eq_some_iff.mp H
           obtain ⟨t214, A300, H⟩ := H
           replace H : (formula_Prune.l0 k1 t204 (y213.set (x7_1 : Int).toNat (!t214)) (wrap64 (x7_1 - 1)) a0_0 a0_1 a0_2 a0_3 l0_4) = some r := H
           have A30 := Aside0.mk A300
           clear A300
           obtain ⟨y215, hy215⟩ : ∃ y_ : List Bool, y_ = (y213.set (x7_1 : Int).toNat (!t214)) := ⟨_, rfl⟩
           replace H : (formula_Prune.l0 k1 t204 y215 (wrap64 (x7_1 - 1)) a0_0 a0_1 a0_2 a0_3 l0_4) = some r := by first | (rw [hy215]; with_reducible exact H) | (have H2_ := (Option.bind_some _ _).symm.trans H; rw [hy215]; with_reducible exact H2_) | (have H2_ := (Option.bind_some _ _).symm.trans H; with_reducible exact H2_) | with_reducible exact H | (rw [hy215]; exact H) | exact H
           have Ny215 := Aside0.mk hy215
           clear hy215
           have H' := Aside0.mk H
           clear H
           have p212 : 0 ≤ (x7_1 : Int) := of_decide_eq_true (by first | (with_reducible assumption) | assumption)
           have q212 : x7_1 < (x6_1.length : Int) := of_decide_eq_true (by first | (with_reducible assumption) | assumption)
           obtain ⟨ad212, e212, hx212_0⟩ := Kd.at_bool (Kd.R_reads' HO_6.out).2.2 x7_1 p212 q212
           (try rw [← Nbq27.out] at hx212_0)
           cases e212
           replace p212 := eq_true p212
           replace q212 := eq_true q212
           have p29 : 0 ≤ (x7_1 : Int) := of_decide_eq_true (by first | (with_reducible assumption) | assumption)
           have q29 : (x7_1 : Int) < ((x6_1.length : Int) : Int) := of_decide_eq_true (by first | (with_reducible assumption) | assumption)
           obtain ⟨go29, co29, eo29, gb29, gl29, cl29, HG29⟩ := Kd.R_form HO_6.out (by omega)
           (first | cases eo29 | (injection eo29 with ea_ en_ ec_; (first | subst ea_ | (injection ea_ with ea_; subst ea_)); subst ec_; clear en_))
           have GB29 := Aside0.mk gb29
           have GG29 := Aside0.mk HG29
           clear gb29 gl29 HG29
           (first | simp only [add_plain] at hx212_0 | skip)
           obtain ⟨hx29_0, hf29_0⟩ := Kd.R_celln false HO_6.out (x7_1 : Int) p29 q29
           replace p29 := eq_true p29
           replace q29 := eq_true q29
           have HP32 := Kd.R_putg HO_6.out (x7_1 : Int) false
           go_wp2_with (first | ((with_reducible refine gate_store (t := 4) (p := 38) rfl ?_); refine store_event (t := 4) (p := 38) (v := ?vo_w33) (w1 := (wr.setCell ⟨go29, (x7_1 : Int).toNat, none⟩ (.bool false))) ?hg ?ho ?hn ?hr ?_; (case ho => rfl); (case hg => rfl); (case hn => rfl); (case hr => first | (go_simp; done) | (go_simp; rfl)); intro w33 hw; have hg : wr.grownBy w33 (some go29) := (by rw [hw]; exact HP32.2); have hp_ : Kd.R Kd.bool 4 w33 w.heap.size (fun _ => True) (.slice (some ⟨go29, 0, none⟩) x6_1.length co23) y213 := (by rw [hw, Ny213.out]; exact HP32.1); clear HP32; have n0_ := am (Kd.R_over' (v := (.slice (some ⟨go29, 0, none⟩) x6_1.length co23)) (zR HO_5.out) (Kd.R_typed HO_6.out) (by decide) hg); have n1_ := am (hp_); have n2_ := am (blk_grown (g := gb203) (o := .cells #[.int .i64 a0_0, .string a0_1, .int .i64 a0_2, .int .i64 a0_3, .slice A0_4 l0_4.length c0_4] 28 (0, 0)) (zB BK203.out) hg (Kd.R_ne HO_6.out BK203.out (by decide))); have n3_ := am ((by rw [hw]; exact below_set (HB.out) GB29.out : Below w.heap.size w w33)); clear HO_5 HO_6 BK203 HB; have HO_5 := n0_; have HO_6 := n1_; have BK203 := n2_; have HB := n3_; clear n0_ n1_ n2_ n3_; clear hg hw hp_; obtain ⟨hcz34_0, hcz34_1, hcz34_2, hcz34_3, hcz34_4, hfz34_0, hfz34_1, hfz34_2, hfz34_3, hfz34_4⟩ := b5 BK203.out) | ((with_reducible refine gate_callee (f := 33) rfl ?_); refine goesL_ (some 44) rfl rfl Try.func33 (by kernel_rfl) rfl #[.agg #[.int .i64 a0_0, .string a0_1, .int .i64 a0_2, .int .i64 a0_3, .slice A0_4 l0_4.length c0_4], .slice Ao16 t204.length co16, .slice (some ⟨go29, 0, none⟩) y213.length co23] rfl (by (try simp only [List.map_toArray, List.map_cons, List.map_nil]); first | done | (rw [show y213.length = x6_1.length from (Kd.R_reads' HO_6.out).1.symm] <;> rfl) | rfl | (simp only [List.length_drop, List.length_take]; rfl)) ?_; (with_reducible refine (formula_holds.calls k1 a0_0 a0_1 a0_2 a0_3 _ _ l0_4 _ _ t204 _ _ y213 t214 _ ?side1 ?side2 ?side3 ?side4 ?side5 ?side6 A30.out).mono ?_); (case side1 => exact zC (Kd.C_below HR0_4.out HB.out)); (case side2 => exact HC0_4.out); (case side3 => exact zC (Kd.R_reads' HO_5.out).2.2); (case side4 => exact (Kd.R_reads' HO_5.out).2.1); (case side5 => exact zC (Kd.R_reads' HO_6.out).2.2); (case side6 => rw [show y213.length = x6_1.length from (Kd.R_reads' HO_6.out).1.symm]; exact (Kd.R_reads' HO_6.out).2.1); rintro e w35 ⟨rfl, hb⟩; refine ⟨_, rfl, ?_⟩; have n0_ := am (Kd.R_below (zR HO_5.out) hb); have n1_ := am (Kd.R_below (zR HO_6.out) hb); have n2_ := am (blk_below (zB BK203.out) hb); have n3_ := am (below_step (zL HB.out) hb); clear HO_5 HO_6 BK203 HB; have HO_5 := n0_; have HO_6 := n1_; have BK203 := n2_; have HB := n3_; clear n0_ n1_ n2_ n3_; (try clear hb); (try clear hb2); (try clear hk); (try clear hi); have p31 : 0 ≤ (x7_1 : Int) := of_decide_eq_true (by first | (with_reducible assumption) | assumption); have q31 : (x7_1 : Int) < ((x6_1.length : Int) : Int) := of_decide_eq_true (by first | (with_reducible assumption) | assumption); obtain ⟨hx31_0, hf31_0⟩ := Kd.R_celln false HO_6.out (x7_1 : Int) p31 q31; replace p31 := eq_true p31; replace q31 := eq_true q31; obtain ⟨hy36_, hz36_⟩ := Kd.R_celln false HO_6.out (x7_1 : Int) (of_decide_eq_true (by first | (with_reducible assumption) | assumption)) (of_decide_eq_true (by first | (with_reducible assumption) | assumption)); have HP36 := Kd.R_putg HO_6.out (x7_1 : Int) (!t214)) | ((with_reducible refine gate_store (t := 4) (p := 46) rfl ?_); refine store_event (t := 4) (p := 46) (v := ?vo_w37) (w1 := (w35.setCell ⟨go29, (x7_1 : Int).toNat, none⟩ (.bool (!t214)))) ?hg ?ho ?hn ?hr ?_; (case ho => rfl); (case hg => rfl); (case hn => rfl); (case hr => first | (go_simp; done) | (go_simp; rfl)); intro w37 hw; have hg : w35.grownBy w37 (some go29) := (by rw [hw]; exact HP36.2); have hp_ : Kd.R Kd.bool 4 w37 w.heap.size (fun _ => True) (.slice (some ⟨go29, 0, none⟩) x6_1.length co23) y215 := (by rw [hw, Ny215.out]; exact HP36.1); clear HP36; have n0_ := am (Kd.R_over' (v := (.slice (some ⟨go29, 0, none⟩) x6_1.length co23)) (zR HO_5.out) (Kd.R_typed HO_6.out) (by decide) hg); have n1_ := am (hp_); have n2_ := am (blk_grown (g := gb203) (o := .cells #[.int .i64 a0_0, .string a0_1, .int .i64 a0_2, .int .i64 a0_3, .slice A0_4 l0_4.length c0_4] 28 (0, 0)) (zB BK203.out) hg (Kd.R_ne HO_6.out BK203.out (by decide))); have n3_ := am ((by rw [hw]; exact below_set (HB.out) GB29.out : Below w.heap.size w w37)); clear HO_5 HO_6 BK203 HB; have HO_5 := n0_; have HO_6 := n1_; have BK203 := n2_; have HB := n3_; clear n0_ n1_ n2_ n3_; clear hg hw hp_))
           (try simp only [← hl6_1])
           go_roundg k1
           case measure => have := HK1.out; omega
           case rel => exact ⟨(y215), (wrap64 (x7_1 - 1)), (by first | rfl | (simp; done) | (simp [*]; done)), H', ⟨by have := HK1.out; omega⟩, ⟨by (try simp only [hl6_1]); exact zR <| HO_5.out⟩, ⟨by (try simp only [hl6_1]); exact zR <| HO_6.out⟩, ⟨by (try simp only [hl6_1]); exact zB <| BK203.out⟩, ⟨by repeat (first | (with_reducible first | exact HB.out | apply ba | apply bd | apply be | refine below_set ?_ GE203.out) | exact HB.out)⟩⟩
          ·replace c28 := Bool.eq_false_iff.mpr c28
           subst c28
           have H1 : (formula_Prune.l0 k1 t204 x6_1 (wrap64 (x7_1 - 1)) a0_0 a0_1 a0_2 a0_3 l0_4) = some r := by rw [if_neg (show ¬ (false = true) by decide)] at H; exact H
           clear H
           have H := H1
           clear H1
           have H' := Aside0.mk H
           clear H
           have p212 : 0 ≤ (x7_1 : Int) := of_decide_eq_true (by first | (with_reducible assumption) | assumption)
           have q212 : x7_1 < (x6_1.length : Int) := of_decide_eq_true (by first | (with_reducible assumption) | assumption)
           obtain ⟨ad212, e212, hx212_0⟩ := Kd.at_bool (Kd.R_reads' HO_6.out).2.2 x7_1 p212 q212
           (try rw [← Nbq27.out] at hx212_0)
           cases e212
           replace p212 := eq_true p212
           replace q212 := eq_true q212
           go_wp2
           (try simp only [← hl6_1])
           go_roundg k1
           case measure => have := HK1.out; omega
           case rel => exact ⟨(x6_1), (wrap64 (x7_1 - 1)), (by first | rfl | (simp; done) | (simp [*]; done)), H', ⟨by have := HK1.out; omega⟩, ⟨by (try simp only [hl6_1]); exact zR <| HO_5.out⟩, ⟨by (try simp only [hl6_1]); exact zR <| HO_6.out⟩, ⟨by (try simp only [hl6_1]); exact zB <| BK203.out⟩, ⟨by repeat (first | (with_reducible first | exact HB.out | apply ba | apply bd | apply be | refine below_set ?_ GE203.out) | exact HB.out)⟩⟩
         ·rw [if_neg c26] at H
          exact absurd H (by simp)
        ·rw [if_neg c25] at H
         exact absurd H (by simp)
       ·rw [if_neg c24] at H
        have c24b0 : decide (0 ≤ x7_1) = false := decide_eq_false c24
        clear c24
        obtain rfl := Option.some.inj H
        go_wp2
        go_ret
        exact ⟨_, by first | rfl | (simp [errW_none, errW_some] <;> rfl) | (simp [*, errW_none, errW_some] <;> rfl), by exact zR HO_6.out, by repeat (first | (with_reducible first | exact HB.out | apply ba | apply bd | apply be | refine below_set ?_ GE203.out) | exact HB.out)⟩
    ·replace c12 := Bool.eq_false_iff.mpr c12
     subst c12
     have H1 : (some y207) = some r := by rw [if_neg (show ¬ (false = true) by decide)] at H; exact H
     clear H
     have H := H1
     clear H1
     obtain rfl := Option.some.inj H
     go_enter Try.func24, Try.ntmps24
     go_wp2_with (first | ((with_reducible refine gate_dst (N := 2) rfl ?_); refine box_event ?hg (N := 2) ?hd (cs := #[.int .i64 a0_0, .string a0_1, .int .i64 a0_2, .int .i64 a0_3, .slice A0_4 l0_4.length c0_4]) (t := 28) ?hr ?_; (case hd => rfl); (case hg => rfl); (case hr => first | (go_simp; done) | (go_simp; rfl)); intro gb203 hg w38 hbox hb; have n0_ := am (below_step (zL HB.out) hb); have n1_ := am (hbox); have n2_ := am (zS hg HB.out); have n3_ := am (zS hg HB.out); clear HB; have HB := n0_; have BK203 := n1_; have GW203 := n2_; have GE203 := n3_; clear n0_ n1_ n2_ n3_; clear hb hbox hg; obtain ⟨hcz39_0, hcz39_1, hcz39_2, hcz39_3, hcz39_4, hfz39_0, hfz39_1, hfz39_2, hfz39_3, hfz39_4⟩ := b5 BK203.out) | ((with_reducible refine gate_callee (f := 12) rfl ?_); refine goesL_ (some 9) rfl rfl Try.func12 (by kernel_rfl) rfl #[.agg #[.int .i64 a0_0, .string a0_1, .int .i64 a0_2, .int .i64 a0_3, .slice A0_4 l0_4.length c0_4]] rfl mp1 ?_; (with_reducible refine (formula_Atoms.calls k a0_0 a0_1 a0_2 a0_3 _ _ l0_4 t204 _ ?side1 ?side2 A3.out).mono ?_); (case side1 => exact zC (Kd.C_below HR0_4.out HB.out)); (case side2 => exact HC0_4.out); rintro e w40 ⟨v205, rfl, ho0, hb⟩; refine ⟨_, rfl, ?_⟩; have n0_ := am (Kd.R_lower ho0 (below_size (zL HB.out))); have n1_ := am (blk_below (zB BK203.out) hb); have n2_ := am (below_step (zL HB.out) hb); clear BK203 HB; have HO206 := n0_; have BK203 := n1_; have HB := n2_; clear n0_ n1_ n2_; (try clear hb); (try clear hb2); (try clear hk); (try clear hi); (try clear ho0); obtain ⟨Ao41, co41, eo41⟩ := Kd.R_slice HO206.out; subst eo41) | ((with_reducible refine gate_dst (N := 15) rfl ?_); refine Kd.R_make Kd.bool _ 4 rfl (N := 15) rfl 33 _ _ rfl (t204.length : Int) rfl rfl Try.underlying33 (.bool false) 1 info4 rfl (by decide) (by omega) false (ok := fun _ => True) (okp := fun _ => True) rfl (fun _ hk => hk) trivial (of_decide_eq_true (by first | (with_reducible assumption) | assumption)) (Nat.le_trans (Nat.mul_le_mul_right _ (of_decide_eq_true (by first | (with_reducible assumption) | assumption) : (t204.length : Int).toNat ≤ 281474976710656)) (by omega)) (Below.refl _ _) (Nat.le_refl _) ?_; intro v208 w42 ho43 hb hg_ hnew_; clear hg_ hnew_; (first | rw [← Ny207.out] at ho43 | (simp only [Int.reduceToNat] at ho43; rw [← Ny207.out] at ho43)); have n0_ := am (Kd.R_below (zR HO206.out) hb); have n1_ := am (Kd.R_lower ho43 (below_size (zL HB.out))); have n2_ := am (blk_below (zB BK203.out) hb); have n3_ := am (below_step (zL HB.out) hb); clear HO206 BK203 HB; have HO206 := n0_; have HO209 := n1_; have BK203 := n2_; have HB := n3_; clear n0_ n1_ n2_ n3_; clear hb ho43; obtain ⟨hcz44_0, hcz44_1, hcz44_2, hcz44_3, hcz44_4, hfz44_0, hfz44_1, hfz44_2, hfz44_3, hfz44_4⟩ := b5 BK203.out) | ((with_reducible refine gate_callee (f := 33) rfl ?_); refine goesL_ (some 19) rfl rfl Try.func33 (by kernel_rfl) rfl #[.agg #[.int .i64 a0_0, .string a0_1, .int .i64 a0_2, .int .i64 a0_3, .slice A0_4 l0_4.length c0_4], .slice Ao41 t204.length co41, .slice A1 l1.length c1] rfl mp3 ?_; (with_reducible refine (formula_holds.calls k a0_0 a0_1 a0_2 a0_3 _ _ l0_4 _ _ t204 _ _ l1 false _ ?side1 ?side2 ?side3 ?side4 ?side5 ?side6 A11.out).mono ?_); (case side1 => exact zC (Kd.C_below HR0_4.out HB.out)); (case side2 => exact HC0_4.out); (case side3 => exact zC (Kd.R_reads' HO206.out).2.2); (case side4 => exact (Kd.R_reads' HO206.out).2.1); (case side5 => exact zC (Kd.C_below HR1.out HB.out)); (case side6 => exact HC1.out); rintro e w45 ⟨rfl, hb⟩; refine ⟨_, rfl, ?_⟩; have n0_ := am (Kd.R_below (zR HO206.out) hb); have n1_ := am (Kd.R_below (zR HO209.out) hb); have n2_ := am (blk_below (zB BK203.out) hb); have n3_ := am (below_step (zL HB.out) hb); clear HO206 HO209 BK203 HB; have HO206 := n0_; have HO209 := n1_; have BK203 := n2_; have HB := n3_; clear n0_ n1_ n2_ n3_; (try clear hb); (try clear hb2); (try clear hk); (try clear hi)))
     go_ret
     exact ⟨_, by first | rfl | (simp [errW_none, errW_some] <;> rfl) | (simp [*, errW_none, errW_some] <;> rfl), by exact zR HO209.out, by repeat (first | (with_reducible first | exact HB.out | apply ba | apply bd | apply be | refine below_set ?_ GE203.out) | exact HB.out)⟩
   ·rw [if_neg c10] at H
    exact absurd H (by simp)
  ·rw [if_neg c9] at H
   exact absurd H (by simp)

/-! ### clusterlockslaw08_atom: function 26 -/
def clusterlockslaw08_atom.f (a0 : ByteArray) : Option (Int × ByteArray × Int × Int × (List (S28))) := some (0, a0, 3, 0, ([] : List (S28)))
set_option maxHeartbeats 8000000 in
set_option maxRecDepth 100000 in
theorem clusterlockslaw08_atom.calls (a0 : ByteArray) (r1 : Int) (r2 : ByteArray) (r3 : Int) (r4 : Int) (r5 : List (S28)) (w : World) (h : clusterlockslaw08_atom.f a0 = some (r1, r2, r3, r4, r5)) :
  Calls Try.prog 26 #[.string a0] w fun e w' => ∃ v4_ : Value, e = .returned (.agg #[.int .i64 r1, .string r2, .int .i64 r3, .int .i64 r4, v4_]) ∧ Kd.R k28 28 w' w.heap.size (fun _ => True) v4_ r5 ∧ Below w.heap.size w w' := by
 have hu28 := Try.underlying28
 have hu23 := Try.underlying23
 have hu25 := Try.underlying25
 have HB := am (Below.refl w.heap.size w)
 have H : (some (0, a0, 3, 0, ([] : List (S28)))) = some (r1, r2, r3, r4, r5) := h
 clear h
 simp only [Option.some.injEq, Prod.mk.injEq] at H
 obtain ⟨rfl, rfl, rfl, rfl, rfl⟩ := H
 go_enter Try.func26, Try.ntmps26
 go_wp2_with (first | ((with_reducible refine gate_dst (N := 2) rfl ?_); refine box_event ?hg (N := 2) ?hd (cs := #[.int .i64 0, .string (⟨#[]⟩ : ByteArray), .int .i64 0, .int .i64 0, .slice none 0 0]) (t := 28) ?hr ?_; (case hd => rfl); (case hg => rfl); (case hr => first | (go_simp; done) | (go_simp; rfl)); intro gb216 hg w2 hbox hb; have n0_ := am (below_step (zL HB.out) hb); have n1_ := am (hbox); have n2_ := am (zS hg HB.out); have n3_ := am (zS hg HB.out); clear HB; have HB := n0_; have BK216 := n1_; have GW216 := n2_; have GE216 := n3_; clear n0_ n1_ n2_ n3_; clear hb hbox hg; obtain ⟨hcz3_0, hcz3_1, hcz3_2, hcz3_3, hcz3_4, hfz3_0, hfz3_1, hfz3_2, hfz3_3, hfz3_4⟩ := b5 BK216.out) | ((with_reducible refine gate_store (t := 28) (p := 2) rfl ?_); refine store_event (t := 28) (p := 2) (v := ?vo_w4) (w1 := (((((w2.setCell ⟨gb216, 0, none⟩ (.int .i64 0)).setCell ⟨gb216, 1, none⟩ (.string a0)).setCell ⟨gb216, 2, none⟩ (.int .i64 3)).setCell ⟨gb216, 3, none⟩ (.int .i64 0)).setCell ⟨gb216, 4, none⟩ (.slice none 0 0))) ?hg ?ho ?hn ?hr ?_; (case ho => rfl); (case hg => rfl); (case hn => rfl); (case hr => first | (go_simp; done) | (go_simp; rfl)); intro w4 hw; have n0_ : Aside0 (w4.heap[gb216]? = some (.cells #[.int .i64 0, .string a0, .int .i64 3, .int .i64 0, .slice none 0 0] 28 (0, 0))) := ⟨(by rw [hw]; exact (by refine blk_put (cs := #[.int .i64 0, .string a0, .int .i64 3, .int .i64 0, .slice none 0 0]) ?_ 4 _ rfl; refine blk_put (cs := #[.int .i64 0, .string a0, .int .i64 3, .int .i64 0, .slice none 0 0]) ?_ 3 _ rfl; refine blk_put (cs := #[.int .i64 0, .string a0, .int .i64 0, .int .i64 0, .slice none 0 0]) ?_ 2 _ rfl; refine blk_put (cs := #[.int .i64 0, .string (⟨#[]⟩ : ByteArray), .int .i64 0, .int .i64 0, .slice none 0 0]) ?_ 1 _ rfl; refine blk_put (cs := #[.int .i64 0, .string (⟨#[]⟩ : ByteArray), .int .i64 0, .int .i64 0, .slice none 0 0]) ?_ 0 _ rfl; exact zB <| BK216.out))⟩; have n1_ : Aside0 (Below w.heap.size w w4) := ⟨(by rw [hw]; exact (by repeat (first | (with_reducible first | exact HB.out | apply ba | apply bd | apply be | refine below_set ?_ GE216.out) | exact HB.out)))⟩; clear hw BK216 HB; have BK216 := n0_; have HB := n1_; clear n0_ n1_))
 refine bodyPost_ret (results_cell_row rfl _ _ gb216 28 #[.int .i64 0, .string a0, .int .i64 3, .int .i64 0, .slice none 0 0] (0, 0) _ rfl (zB BK216.out) Try.underlying28 rfl (by kernel_rfl)) rfl ?_
 exact ⟨_, by first | rfl | (simp [errW_none, errW_some] <;> rfl) | (simp [*, errW_none, errW_some] <;> rfl), by first | exact Kd.R_nil _ _ _ _ _ | exact Kd.N_nil _ _ _ _ _ | exact Kd.V_nil _ _ _ _ _ | exact Kd.Q_nil _ _ _ _ _ | exact Kd.S_nil _ _ _ _ _, by repeat (first | (with_reducible first | exact HB.out | apply ba | apply bd | apply be | refine below_set ?_ GE216.out) | exact HB.out)⟩

/-! ### formula_Class: function 27 -/
def formula_Class.l0 : Nat → List (S25) → Bool → Bool → Int → Int → Int → ByteArray → Int → Int → List (S28) → Option (Int)
 | 0, _, _, _, _, _, _, _, _, _, _ => none
 | k + 1, x3, x4, x5, x16, x17, x218000, x218001, x218002, x218003, x218004 => if x17 < x16 then (if 0 ≤ (x3.length : Int) then (if ((x3.length : Int) : Int).toNat ≤ 281474976710656 then ((some (List.replicate ((x3.length : Int) : Int).toNat false : List Bool)).bind fun y221 => (if 0 ≤ x17 then (if x17 < (y221.length : Int) then ((some (y221.set (x17 : Int).toNat true : List Bool)).bind fun y224 => (if x5 = true then ((formula_holds.f k x218000 x218001 x218002 x218003 x218004 x3 y224).bind fun t225 => (if x4 = true then ((formula_Hopeless.f k x218000 x218001 x218002 x218003 x218004 y224).bind fun t226 => (formula_Class.l0 k x3 t226 t225 x16 (wrap64 (x17 + 1)) x218000 x218001 x218002 x218003 x218004)) else (formula_Class.l0 k x3 false t225 x16 (wrap64 (x17 + 1)) x218000 x218001 x218002 x218003 x218004))) else (if x4 = true then ((formula_Hopeless.f k x218000 x218001 x218002 x218003 x218004 y224).bind fun t227 => (formula_Class.l0 k x3 t227 false x16 (wrap64 (x17 + 1)) x218000 x218001 x218002 x218003 x218004)) else (formula_Class.l0 k x3 false false x16 (wrap64 (x17 + 1)) x218000 x218001 x218002 x218003 x218004)))) else (none)) else (none))) else (none)) else (none)) else (if x4 = true then (some 2) else (if x5 = true then (some 3) else (some 4)))
def formula_Class.f (k : Nat) (a0_0 : Int) (a0_1 : ByteArray) (a0_2 : Int) (a0_3 : Int) (l0_4 : List (S28)) : Option (Int) := (formula_Atoms.f k a0_0 a0_1 a0_2 a0_3 l0_4).bind fun t218 => (if (t218.length : Int) ≤ 1 then (some (t218.length : Int)) else (formula_Class.l0 k t218 true true (t218.length : Int) 0 a0_0 a0_1 a0_2 a0_3 l0_4))
theorem formula_Class.mono_l : ∀ k, (∀ y0 y1 y2 y3 y4 y5 y6 y7 y8 y9, LeO (formula_Class.l0 k y0 y1 y2 y3 y4 y5 y6 y7 y8 y9) (formula_Class.l0 (k + 1) y0 y1 y2 y3 y4 y5 y6 y7 y8 y9))
 | 0 => fun _ _ _ _ _ _ _ _ _ _ r h => by simp [formula_Class.l0] at h
 | k + 1 => by
  have ih0 := formula_Class.mono_l k
  ·intro y0 y1 y2 y3 y4 y5 y6 y7 y8 y9
   unfold formula_Class.l0
   repeat' first
   | (with_reducible exact ih0 _ _ _ _ _ _ _ _ _ _)
   | (with_reducible exact formula_Atoms.mono _ _ _ _ _ _)
   | (with_reducible exact formula_Hopeless.mono _ _ _ _ _ _ _)
   | (with_reducible exact formula_holds.mono _ _ _ _ _ _ _ _)
   | (with_reducible exact LeO.refl _)
   | (with_reducible exact LeO.none _)
   | (with_reducible refine LeO.ite ?_ ?_)
   | (with_reducible refine LeO.bind ?_ (fun _ => ?_))
   | exact ih0 _ _ _ _ _ _ _ _ _ _
   | exact formula_Atoms.mono _ _ _ _ _ _
   | exact formula_Hopeless.mono _ _ _ _ _ _ _
   | exact formula_holds.mono _ _ _ _ _ _ _ _
   | exact LeO.none _
   | refine LeO.ite ?_ ?_
   | refine LeO.bind ?_ (fun _ => ?_)
theorem formula_Class.mono : ∀ a0 a1 a2 a3 a4 k, LeO (formula_Class.f k a0 a1 a2 a3 a4) (formula_Class.f (k + 1) a0 a1 a2 a3 a4) := by
 intro a0 a1 a2 a3 a4 k
 have ih0 := formula_Class.mono_l k
 unfold formula_Class.f
 repeat' first
   | (with_reducible exact ih0 _ _ _ _ _ _ _ _ _ _)
   | (with_reducible exact formula_Atoms.mono _ _ _ _ _ _)
   | (with_reducible exact formula_Hopeless.mono _ _ _ _ _ _ _)
   | (with_reducible exact formula_holds.mono _ _ _ _ _ _ _ _)
   | (with_reducible exact LeO.refl _)
   | (with_reducible exact LeO.none _)
   | (with_reducible refine LeO.ite ?_ ?_)
   | (with_reducible refine LeO.bind ?_ (fun _ => ?_))
   | exact ih0 _ _ _ _ _ _ _ _ _ _
   | exact formula_Atoms.mono _ _ _ _ _ _
   | exact formula_Hopeless.mono _ _ _ _ _ _ _
   | exact formula_holds.mono _ _ _ _ _ _ _ _
   | exact LeO.none _
   | refine LeO.ite ?_ ?_
   | refine LeO.bind ?_ (fun _ => ?_)
set_option maxHeartbeats 8000000 in
set_option maxRecDepth 100000 in
theorem formula_Class.calls (k : Nat) (a0_0 : Int) (a0_1 : ByteArray) (a0_2 : Int) (a0_3 : Int) (A0_4 : Option Addr) (c0_4 : Nat) (l0_4 : List (S28)) (r : Int) (w : World) (hr0_4 : Kd.C k28 w A0_4 l0_4.length l0_4) (hc0_4 : l0_4.length ≤ c0_4) (h : formula_Class.f k a0_0 a0_1 a0_2 a0_3 l0_4 = some r) :
  Calls Try.prog 27 #[.agg #[.int .i64 a0_0, .string a0_1, .int .i64 a0_2, .int .i64 a0_3, .slice A0_4 l0_4.length c0_4]] w fun e w' => e = .returned (.int .i64 r) ∧ Below w.heap.size w w' := by
 have hu28 := Try.underlying28
 have HR0_4 := Aside0.mk hr0_4
 have HC0_4 := Aside0.mk hc0_4
 clear hr0_4 hc0_4
 have HB := am (Below.refl w.heap.size w)
 have H : ((formula_Atoms.f k a0_0 a0_1 a0_2 a0_3 l0_4).bind fun t218 => (if (t218.length : Int) ≤ 1 then (some (t218.length : Int)) else (formula_Class.l0 k t218 true true (t218.length : Int) 0 a0_0 a0_1 a0_2 a0_3 l0_4))) = some r := h
 clear h
 replace H := Option.bind_eq_some_iff.mp H
 obtain ⟨t218, A20, H⟩ := H
 replace H : (if (t218.length : Int) ≤ 1 then (some (t218.length : Int)) else (formula_Class.l0 k t218 true true (t218.length : Int) 0 a0_0 a0_1 a0_2 a0_3 l0_4)) = some r := H
 have A2 := Aside0.mk A20
 clear A20
 by_cases c3 : (t218.length : Int) ≤ 1
 ·rw [if_pos c3] at H
  have c3b0 : decide ((t218.length : Int) ≤ 1) = true := decide_eq_true c3
  have c3b1 : decide (t218.length ≤ 1) = true := decide_eq_true (by omega)
  clear c3
  obtain rfl := Option.some.inj H
  go_enter Try.func27, Try.ntmps27
  go_wp2_with (first | ((with_reducible refine gate_dst (N := 1) rfl ?_); refine box_event ?hg (N := 1) ?hd (cs := #[.int .i64 a0_0, .string a0_1, .int .i64 a0_2, .int .i64 a0_3, .slice A0_4 l0_4.length c0_4]) (t := 28) ?hr ?_; (case hd => rfl); (case hg => rfl); (case hr => first | (go_simp; done) | (go_simp; rfl)); intro gb217 hg w4 hbox hb; have n0_ := am (below_step (zL HB.out) hb); have n1_ := am (hbox); have n2_ := am (zS hg HB.out); have n3_ := am (zS hg HB.out); clear HB; have HB := n0_; have BK217 := n1_; have GW217 := n2_; have GE217 := n3_; clear n0_ n1_ n2_ n3_; clear hb hbox hg; obtain ⟨hcz5_0, hcz5_1, hcz5_2, hcz5_3, hcz5_4, hfz5_0, hfz5_1, hfz5_2, hfz5_3, hfz5_4⟩ := b5 BK217.out) | ((with_reducible refine gate_callee (f := 12) rfl ?_); refine goesL_ (some 9) rfl rfl Try.func12 (by kernel_rfl) rfl #[.agg #[.int .i64 a0_0, .string a0_1, .int .i64 a0_2, .int .i64 a0_3, .slice A0_4 l0_4.length c0_4]] rfl mp1 ?_; (with_reducible refine (formula_Atoms.calls k a0_0 a0_1 a0_2 a0_3 _ _ l0_4 t218 _ ?side1 ?side2 A2.out).mono ?_); (case side1 => exact zC (Kd.C_below HR0_4.out HB.out)); (case side2 => exact HC0_4.out); rintro e w6 ⟨v219, rfl, ho0, hb⟩; refine ⟨_, rfl, ?_⟩; have n0_ := am (Kd.R_lower ho0 (below_size (zL HB.out))); have n1_ := am (blk_below (zB BK217.out) hb); have n2_ := am (below_step (zL HB.out) hb); clear BK217 HB; have HO220 := n0_; have BK217 := n1_; have HB := n2_; clear n0_ n1_ n2_; (try clear hb); (try clear hb2); (try clear hk); (try clear hi); (try clear ho0); obtain ⟨Ao7, co7, eo7⟩ := Kd.R_slice HO220.out; subst eo7))
  go_ret
  exact ⟨by first | rfl | (simp [errW_none, errW_some] <;> rfl) | (simp [*, errW_none, errW_some] <;> rfl), by repeat (first | (with_reducible first | exact HB.out | apply ba | apply bd | apply be | refine below_set ?_ GE217.out) | exact HB.out)⟩
 ·rw [if_neg c3] at H
  have c3b0 : decide ((t218.length : Int) ≤ 1) = false := decide_eq_false c3
  have c3b1 : decide (t218.length ≤ 1) = false := decide_eq_false (by omega)
  clear c3
  have H' := Aside0.mk H
  clear H
  go_enter Try.func27, Try.ntmps27
  go_wp2_with (first | ((with_reducible refine gate_dst (N := 1) rfl ?_); refine box_event ?hg (N := 1) ?hd (cs := #[.int .i64 a0_0, .string a0_1, .int .i64 a0_2, .int .i64 a0_3, .slice A0_4 l0_4.length c0_4]) (t := 28) ?hr ?_; (case hd => rfl); (case hg => rfl); (case hr => first | (go_simp; done) | (go_simp; rfl)); intro gb217 hg w8 hbox hb; have n0_ := am (below_step (zL HB.out) hb); have n1_ := am (hbox); have n2_ := am (zS hg HB.out); have n3_ := am (zS hg HB.out); clear HB; have HB := n0_; have BK217 := n1_; have GW217 := n2_; have GE217 := n3_; clear n0_ n1_ n2_ n3_; clear hb hbox hg; obtain ⟨hcz9_0, hcz9_1, hcz9_2, hcz9_3, hcz9_4, hfz9_0, hfz9_1, hfz9_2, hfz9_3, hfz9_4⟩ := b5 BK217.out) | ((with_reducible refine gate_callee (f := 12) rfl ?_); refine goesL_ (some 9) rfl rfl Try.func12 (by kernel_rfl) rfl #[.agg #[.int .i64 a0_0, .string a0_1, .int .i64 a0_2, .int .i64 a0_3, .slice A0_4 l0_4.length c0_4]] rfl mp1 ?_; (with_reducible refine (formula_Atoms.calls k a0_0 a0_1 a0_2 a0_3 _ _ l0_4 t218 _ ?side1 ?side2 A2.out).mono ?_); (case side1 => exact zC (Kd.C_below HR0_4.out HB.out)); (case side2 => exact HC0_4.out); rintro e w10 ⟨v219, rfl, ho0, hb⟩; refine ⟨_, rfl, ?_⟩; have n0_ := am (Kd.R_lower ho0 (below_size (zL HB.out))); have n1_ := am (blk_below (zB BK217.out) hb); have n2_ := am (below_step (zL HB.out) hb); clear BK217 HB; have HO220 := n0_; have BK217 := n1_; have HB := n2_; clear n0_ n1_ n2_; (try clear hb); (try clear hb2); (try clear hk); (try clear hi); (try clear ho0); obtain ⟨Ao11, co11, eo11⟩ := Kd.R_slice HO220.out; subst eo11))
  go_loopg [4, 5, 17] k (fun kq v4 v5 v17 w' => ∃ (x4_1 : Bool) (x5_1 : Bool) (x17_1 : Int), v4 = .bool x4_1 ∧ v5 = .bool x5_1 ∧ v17 = .int .i64 x17_1 ∧ Aside0 (formula_Class.l0 kq t218 x4_1 x5_1 (t218.length : Int) x17_1 a0_0 a0_1 a0_2 a0_3 l0_4 = some r) ∧ Aside0 (kq ≤ k) ∧ Aside0 (Kd.R k25 25 w' w.heap.size (fun _ => True) (.slice Ao11 t218.length co11) t218) ∧ Aside0 (w'.heap[gb217]? = some (.cells #[.int .i64 a0_0, .string a0_1, .int .i64 a0_2, .int .i64 a0_3, (.slice A0_4 l0_4.length c0_4)] 28 (0, 0))) ∧ Aside0 (Below w.heap.size w w'))
  case atStart => exact ⟨(true), (true), (0), (by first | rfl | (simp; done) | (simp [*]; done)), (by first | rfl | (simp; done) | (simp [*]; done)), (by first | rfl | (simp; done) | (simp [*]; done)), H', ⟨Nat.le_refl _⟩, ⟨by exact zR HO220.out⟩, ⟨by exact zB <| BK217.out⟩, ⟨by repeat (first | (with_reducible first | exact HB.out | apply ba | apply bd | apply be | refine below_set ?_ GE217.out) | exact HB.out)⟩⟩
  case round =>
   clear H'
   try clear c1
   try clear c2
   try clear p2
   try clear c3
   try clear c3b0
   try clear c3b1
   try clear hcz5_0
   try clear hcz5_1
   try clear hcz5_2
   try clear hcz5_3
   try clear hcz5_4
   try clear hcz9_0
   try clear hcz9_1
   try clear hcz9_2
   try clear hcz9_3
   try clear hcz9_4
   try clear hfz5_0
   try clear hfz5_1
   try clear hfz5_2
   try clear hfz5_3
   try clear hfz5_4
   try clear hfz9_0
   try clear hfz9_1
   try clear hfz9_2
   try clear hfz9_3
   try clear hfz9_4
   obtain ⟨x4_1, x5_1, x17_1, rfl, rfl, rfl, HA, HK1, HO_3, BK217, HB⟩ := hrel
   cases gk with
   | zero => exact absurd HA.out (by simp [formula_Class.l0])
   | succ k1 =>
    have H := HA.out
    clear HA
    simp only [formula_Class.l0] at H
    by_cases c12 : x17_1 < (t218.length : Int)
    ·rw [if_pos c12] at H
     have c12b0 : decide (x17_1 < (t218.length : Int)) = true := decide_eq_true c12
     clear c12
     by_cases c13 : 0 ≤ (t218.length : Int)
     ·rw [if_pos c13] at H
      have c13b0 := eq_true c13
      have c13b1 : decide (0 ≤ (t218.length : Int)) = true := decide_eq_true c13
      clear c13
      by_cases c14 : ((t218.length : Int) : Int).toNat ≤ 281474976710656
      ·rw [if_pos c14] at H
       have c14b0 := eq_true c14
       have c14b1 : decide (((t218.length : Int) : Int).toNat ≤ 281474976710656) = true := decide_eq_true c14
       clear c14
       obtain ⟨y221, hy221⟩ : ∃ y_ : List Bool, y_ = (List.replicate ((t218.length : Int) : Int).toNat false) := ⟨_, rfl⟩
       replace H : (if 0 ≤ x17_1 then (if x17_1 < (y221.length : Int) then ((some (y221.set (x17_1 : Int).toNat true : List Bool)).bind fun y224 => (if x5_1 = true then ((formula_holds.f k1 a0_0 a0_1 a0_2 a0_3 l0_4 t218 y224).bind fun t225 => (if x4_1 = true then ((formula_Hopeless.f k1 a0_0 a0_1 a0_2 a0_3 l0_4 y224).bind fun t226 => (formula_Class.l0 k1 t218 t226 t225 (t218.length : Int) (wrap64 (x17_1 + 1)) a0_0 a0_1 a0_2 a0_3 l0_4)) else (formula_Class.l0 k1 t218 false t225 (t218.length : Int) (wrap64 (x17_1 + 1)) a0_0 a0_1 a0_2 a0_3 l0_4))) else (if x4_1 = true then ((formula_Hopeless.f k1 a0_0 a0_1 a0_2 a0_3 l0_4 y224).bind fun t227 => (formula_Class.l0 k1 t218 t227 false (t218.length : Int) (wrap64 (x17_1 + 1)) a0_0 a0_1 a0_2 a0_3 l0_4)) else (formula_Class.l0 k1 t218 false false (t218.length : Int) (wrap64 (x17_1 + 1)) a0_0 a0_1 a0_2 a0_3 l0_4)))) else (none)) else (none)) = some r := by first | (rw [hy221]; with_reducible exact H) | (have H2_ := (Option.bind_some _ _).symm.trans H; rw [hy221]; with_reducible exact H2_) | (have H2_ := (Option.bind_some _ _).symm.trans H; with_reducible exact H2_) | with_reducible exact H | (rw [hy221]; exact H) | exact H
       have Ny221 := Aside0.mk hy221
       clear hy221
       by_cases c15 : 0 ≤ x17_1
       ·rw [if_pos c15] at H
        have c15b0 : decide (0 ≤ x17_1) = true := decide_eq_true c15
        clear c15
        by_cases c16 : x17_1 < (y221.length : Int)
        ·rw [if_pos c16] at H
         have c16b0 : decide (x17_1 < (y221.length : Int)) = true := decide_eq_true c16
         clear c16
         obtain ⟨y224, hy224⟩ : ∃ y_ : List Bool, y_ = (y221.set (x17_1 : Int).toNat true) := ⟨_, rfl⟩
         replace H : (if x5_1 = true then ((formula_holds.f k1 a0_0 a0_1 a0_2 a0_3 l0_4 t218 y224).bind fun t225 => (if x4_1 = true then ((formula_Hopeless.f k1 a0_0 a0_1 a0_2 a0_3 l0_4 y224).bind fun t226 => (formula_Class.l0 k1 t218 t226 t225 (t218.length : Int) (wrap64 (x17_1 + 1)) a0_0 a0_1 a0_2 a0_3 l0_4)) else (formula_Class.l0 k1 t218 false t225 (t218.length : Int) (wrap64 (x17_1 + 1)) a0_0 a0_1 a0_2 a0_3 l0_4))) else (if x4_1 = true then ((formula_Hopeless.f k1 a0_0 a0_1 a0_2 a0_3 l0_4 y224).bind fun t227 => (formula_Class.l0 k1 t218 t227 false (t218.length : Int) (wrap64 (x17_1 + 1)) a0_0 a0_1 a0_2 a0_3 l0_4)) else (formula_Class.l0 k1 t218 false false (t218.length : Int) (wrap64 (x17_1 + 1)) a0_0 a0_1 a0_2 a0_3 l0_4))) = some r := by first | (rw [hy224]; with_reducible exact H) | (have H2_ := (Option.bind_some _ _).symm.trans H; rw [hy224]; with_reducible exact H2_) | (have H2_ := (Option.bind_some _ _).symm.trans H; with_reducible exact H2_) | with_reducible exact H | (rw [hy224]; exact H) | exact H
         have Ny224 := Aside0.mk hy224
         clear hy224
         by_cases c18 : x5_1 = true
         ·subst c18
          have H1 : ((formula_holds.f k1 a0_0 a0_1 a0_2 a0_3 l0_4 t218 y224).bind fun t225 => (if x4_1 = true then ((formula_Hopeless.f k1 a0_0 a0_1 a0_2 a0_3 l0_4 y224).bind fun t226 => (formula_Class.l0 k1 t218 t226 t225 (t218.length : Int) (wrap64 (x17_1 + 1)) a0_0 a0_1 a0_2 a0_3 l0_4)) else (formula_Class.l0 k1 t218 false t225 (t218.length : Int) (wrap64 (x17_1 + 1)) a0_0 a0_1 a0_2 a0_3 l0_4))) = some r := by rw [if_pos rfl] at H; exact H
          clear H
          have H := H1
          clear H1
          replace H := Option.bind_eq_some_iff.mp H
          obtain ⟨t225, A190, H⟩ := H
          replace H : (if x4_1 = true then ((formula_Hopeless.f k1 a0_0 a0_1 a0_2 a0_3 l0_4 y224).bind fun t226 => (formula_Class.l0 k1 t218 t226 t225 (t218.length : Int) (wrap64 (x17_1 + 1)) a0_0 a0_1 a0_2 a0_3 l0_4)) else (formula_Class.l0 k1 t218 false t225 (t218.length : Int) (wrap64 (x17_1 + 1)) a0_0 a0_1 a0_2 a0_3 l0_4)) = some r := H
          have A19 := Aside0.mk A190
          clear A190
          by_cases c20 : x4_1 = true
          ·subst c20
           have H1 : ((formula_Hopeless.f k1 a0_0 a0_1 a0_2 a0_3 l0_4 y224).bind fun t226 => (formula_Class.l0 k1 t218 t226 t225 (t218.length : Int) (wrap64 (x17_1 + 1)) a0_0 a0_1 a0_2 a0_3 l0_4)) = some r := by rw [if_pos rfl] at H; exact H
           clear H
           have H := H1
           clear H1
           replace H := Option.bind_eq_some_iff.mp H
           obtain ⟨t226, A210, H⟩ := H
           replace H : (formula_Class.l0 k1 t218 t226 t225 (t218.length : Int) (wrap64 (x17_1 + 1)) a0_0 a0_1 a0_2 a0_3 l0_4) = some r := H
           have A21 := Aside0.mk A210
           clear A210
           have H' := Aside0.mk H
           clear H
           go_wp2_with (first | ((with_reducible refine gate_dst (N := 22) rfl ?_); refine Kd.R_make Kd.bool _ 4 rfl (N := 22) rfl 33 _ _ rfl (t218.length : Int) rfl rfl Try.underlying33 (.bool false) 1 info4 rfl (by decide) (by omega) false (ok := fun _ => True) (okp := fun _ => True) rfl (fun _ hk => hk) trivial (of_decide_eq_true (by first | (with_reducible assumption) | assumption)) (Nat.le_trans (Nat.mul_le_mul_right _ (of_decide_eq_true (by first | (with_reducible assumption) | assumption) : (t218.length : Int).toNat ≤ 281474976710656)) (by omega)) (Below.refl _ _) (Nat.le_refl _) ?_; intro v222 w22 ho23 hb hg_ hnew_; clear hg_ hnew_; (first | rw [← Ny221.out] at ho23 | (simp only [Int.reduceToNat] at ho23; rw [← Ny221.out] at ho23)); have n0_ := am (Kd.R_below (zR HO_3.out) hb); have n1_ := am (Kd.R_lower ho23 (below_size (zL HB.out))); have n2_ := am (blk_below (zB BK217.out) hb); have n3_ := am (below_step (zL HB.out) hb); clear HO_3 BK217 HB; have HO_3 := n0_; have HO223 := n1_; have BK217 := n2_; have HB := n3_; clear n0_ n1_ n2_ n3_; clear hb ho23; have p17 : 0 ≤ (x17_1 : Int) := of_decide_eq_true (by first | (with_reducible assumption) | assumption); have q17 : (x17_1 : Int) < ((y221.length : Int) : Int) := of_decide_eq_true (by first | (with_reducible assumption) | assumption); obtain ⟨go17, co17, eo17, gb17, gl17, cl17, HG17⟩ := Kd.R_form HO223.out (by omega); (first | cases eo17 | (injection eo17 with ea_ en_ ec_; (first | subst ea_ | (injection ea_ with ea_; subst ea_)); subst ec_; clear en_)); have GB17 := Aside0.mk gb17; have GG17 := Aside0.mk HG17; clear gb17 gl17 HG17; obtain ⟨hx17_0, hf17_0⟩ := Kd.R_celln false HO223.out (x17_1 : Int) p17 q17; replace p17 := eq_true p17; replace q17 := eq_true q17; obtain ⟨hy24_, hz24_⟩ := Kd.R_celln false HO223.out (x17_1 : Int) (of_decide_eq_true (by first | (with_reducible assumption) | assumption)) (of_decide_eq_true (by first | (with_reducible assumption) | assumption)); have HP24 := Kd.R_putg HO223.out (x17_1 : Int) true) | ((with_reducible refine gate_store (t := 4) (p := 25) rfl ?_); refine store_event (t := 4) (p := 25) (v := ?vo_w25) (w1 := (w22.setCell ⟨go17, (x17_1 : Int).toNat, none⟩ (.bool true))) ?hg ?ho ?hn ?hr ?_; (case ho => rfl); (case hg => rfl); (case hn => rfl); (case hr => first | (go_simp; done) | (go_simp; rfl)); intro w25 hw; have hg : w22.grownBy w25 (some go17) := (by rw [hw]; exact HP24.2); have hp_ : Kd.R Kd.bool 4 w25 w.heap.size (fun _ => True) (.slice (some ⟨go17, 0, none⟩) y221.length co17) y224 := (by rw [hw, Ny224.out]; exact HP24.1); clear HP24; have n0_ := am (Kd.R_over' (v := (.slice (some ⟨go17, 0, none⟩) y221.length co17)) (zR HO_3.out) (Kd.R_typed HO223.out) (by decide) hg); have n1_ := am (blk_grown (g := gb217) (o := .cells #[.int .i64 a0_0, .string a0_1, .int .i64 a0_2, .int .i64 a0_3, .slice A0_4 l0_4.length c0_4] 28 (0, 0)) (zB BK217.out) hg (Kd.R_ne HO223.out BK217.out (by decide))); have n2_ := am (hp_); have n3_ := am ((by rw [hw]; exact below_set (HB.out) GB17.out : Below w.heap.size w w25)); clear HO_3 BK217 HO223 HB; have HO_3 := n0_; have BK217 := n1_; have HO223 := n2_; have HB := n3_; clear n0_ n1_ n2_ n3_; clear hg hw hp_; obtain ⟨hcz26_0, hcz26_1, hcz26_2, hcz26_3, hcz26_4, hfz26_0, hfz26_1, hfz26_2, hfz26_3, hfz26_4⟩ := b5 BK217.out) | (go_at_call 33; refine calls_of_args (args' := #[.agg #[.int .i64 a0_0, .string a0_1, .int .i64 a0_2, .int .i64 a0_3, .slice A0_4 l0_4.length c0_4], .slice Ao11 t218.length co11, .slice (some ⟨go17, 0, none⟩) y224.length co17]) (by first | (rw [show y224.length = y221.length from (Kd.R_reads' HO223.out).1.symm] <;> rfl) | rfl) ?_; (with_reducible refine (formula_holds.calls k1 a0_0 a0_1 a0_2 a0_3 _ _ l0_4 _ _ t218 _ _ y224 t225 _ ?side1 ?side2 ?side3 ?side4 ?side5 ?side6 A19.out).mono ?_); (case side1 => exact zC (Kd.C_below HR0_4.out HB.out)); (case side2 => exact HC0_4.out); (case side3 => exact zC (Kd.R_reads' HO_3.out).2.2); (case side4 => exact (Kd.R_reads' HO_3.out).2.1); (case side5 => exact zC (Kd.R_reads' HO223.out).2.2); (case side6 => rw [show y224.length = y221.length from (Kd.R_reads' HO223.out).1.symm]; exact (Kd.R_reads' HO223.out).2.1); rintro e w27 ⟨rfl, hb⟩; have n0_ := am (Kd.R_below (zR HO_3.out) hb); have n1_ := am (Kd.R_below (zR HO223.out) hb); have n2_ := am (blk_below (zB BK217.out) hb); have n3_ := am (below_step (zL HB.out) hb); clear HO_3 HO223 BK217 HB; have HO_3 := n0_; have HO223 := n1_; have BK217 := n2_; have HB := n3_; clear n0_ n1_ n2_ n3_; (try clear hb); (try clear hb2); (try clear hk); (try clear hi); obtain ⟨hcz28_0, hcz28_1, hcz28_2, hcz28_3, hcz28_4, hfz28_0, hfz28_1, hfz28_2, hfz28_3, hfz28_4⟩ := b5 BK217.out) | (go_at_call 17; refine calls_of_args (args' := #[.agg #[.int .i64 a0_0, .string a0_1, .int .i64 a0_2, .int .i64 a0_3, .slice A0_4 l0_4.length c0_4], .slice (some ⟨go17, 0, none⟩) y224.length co17]) (by first | (rw [show y224.length = y221.length from (Kd.R_reads' HO223.out).1.symm] <;> rfl) | rfl) ?_; (with_reducible refine (formula_Hopeless.calls k1 a0_0 a0_1 a0_2 a0_3 _ _ l0_4 _ _ y224 t226 _ ?side1 ?side2 ?side3 ?side4 A21.out).mono ?_); (case side1 => exact zC (Kd.C_below HR0_4.out HB.out)); (case side2 => exact HC0_4.out); (case side3 => exact zC (Kd.R_reads' HO223.out).2.2); (case side4 => rw [show y224.length = y221.length from (Kd.R_reads' HO223.out).1.symm]; exact (Kd.R_reads' HO223.out).2.1); rintro e w29 ⟨rfl, hb⟩; have n0_ := am (Kd.R_below (zR HO_3.out) hb); have n1_ := am (Kd.R_below (zR HO223.out) hb); have n2_ := am (blk_below (zB BK217.out) hb); have n3_ := am (below_step (zL HB.out) hb); clear HO_3 HO223 BK217 HB; have HO_3 := n0_; have HO223 := n1_; have BK217 := n2_; have HB := n3_; clear n0_ n1_ n2_ n3_; (try clear hb); (try clear hb2); (try clear hk); (try clear hi)))
           go_roundg k1
           case measure => have := HK1.out; omega
           case rel => exact ⟨(t226), (t225), (wrap64 (x17_1 + 1)), (by first | rfl | (simp; done) | (simp [*]; done)), (by first | rfl | (simp; done) | (simp [*]; done)), (by first | rfl | (simp; done) | (simp [*]; done)), H', ⟨by have := HK1.out; omega⟩, ⟨by exact zR HO_3.out⟩, ⟨by exact zB <| BK217.out⟩, ⟨by repeat (first | (with_reducible first | exact HB.out | apply ba | apply bd | apply be | refine below_set ?_ GE217.out) | exact HB.out)⟩⟩
          ·replace c20 := Bool.eq_false_iff.mpr c20
           subst c20
           have H1 : (formula_Class.l0 k1 t218 false t225 (t218.length : Int) (wrap64 (x17_1 + 1)) a0_0 a0_1 a0_2 a0_3 l0_4) = some r := by rw [if_neg (show ¬ (false = true) by decide)] at H; exact H
           clear H
           have H := H1
           clear H1
           have H' := Aside0.mk H
           clear H
           go_wp2_with (first | ((with_reducible refine gate_dst (N := 22) rfl ?_); refine Kd.R_make Kd.bool _ 4 rfl (N := 22) rfl 33 _ _ rfl (t218.length : Int) rfl rfl Try.underlying33 (.bool false) 1 info4 rfl (by decide) (by omega) false (ok := fun _ => True) (okp := fun _ => True) rfl (fun _ hk => hk) trivial (of_decide_eq_true (by first | (with_reducible assumption) | assumption)) (Nat.le_trans (Nat.mul_le_mul_right _ (of_decide_eq_true (by first | (with_reducible assumption) | assumption) : (t218.length : Int).toNat ≤ 281474976710656)) (by omega)) (Below.refl _ _) (Nat.le_refl _) ?_; intro v222 w30 ho31 hb hg_ hnew_; clear hg_ hnew_; (first | rw [← Ny221.out] at ho31 | (simp only [Int.reduceToNat] at ho31; rw [← Ny221.out] at ho31)); have n0_ := am (Kd.R_below (zR HO_3.out) hb); have n1_ := am (Kd.R_lower ho31 (below_size (zL HB.out))); have n2_ := am (blk_below (zB BK217.out) hb); have n3_ := am (below_step (zL HB.out) hb); clear HO_3 BK217 HB; have HO_3 := n0_; have HO223 := n1_; have BK217 := n2_; have HB := n3_; clear n0_ n1_ n2_ n3_; clear hb ho31; have p17 : 0 ≤ (x17_1 : Int) := of_decide_eq_true (by first | (with_reducible assumption) | assumption); have q17 : (x17_1 : Int) < ((y221.length : Int) : Int) := of_decide_eq_true (by first | (with_reducible assumption) | assumption); obtain ⟨go17, co17, eo17, gb17, gl17, cl17, HG17⟩ := Kd.R_form HO223.out (by omega); (first | cases eo17 | (injection eo17 with ea_ en_ ec_; (first | subst ea_ | (injection ea_ with ea_; subst ea_)); subst ec_; clear en_)); have GB17 := Aside0.mk gb17; have GG17 := Aside0.mk HG17; clear gb17 gl17 HG17; obtain ⟨hx17_0, hf17_0⟩ := Kd.R_celln false HO223.out (x17_1 : Int) p17 q17; replace p17 := eq_true p17; replace q17 := eq_true q17; obtain ⟨hy32_, hz32_⟩ := Kd.R_celln false HO223.out (x17_1 : Int) (of_decide_eq_true (by first | (with_reducible assumption) | assumption)) (of_decide_eq_true (by first | (with_reducible assumption) | assumption)); have HP32 := Kd.R_putg HO223.out (x17_1 : Int) true) | ((with_reducible refine gate_store (t := 4) (p := 25) rfl ?_); refine store_event (t := 4) (p := 25) (v := ?vo_w33) (w1 := (w30.setCell ⟨go17, (x17_1 : Int).toNat, none⟩ (.bool true))) ?hg ?ho ?hn ?hr ?_; (case ho => rfl); (case hg => rfl); (case hn => rfl); (case hr => first | (go_simp; done) | (go_simp; rfl)); intro w33 hw; have hg : w30.grownBy w33 (some go17) := (by rw [hw]; exact HP32.2); have hp_ : Kd.R Kd.bool 4 w33 w.heap.size (fun _ => True) (.slice (some ⟨go17, 0, none⟩) y221.length co17) y224 := (by rw [hw, Ny224.out]; exact HP32.1); clear HP32; have n0_ := am (Kd.R_over' (v := (.slice (some ⟨go17, 0, none⟩) y221.length co17)) (zR HO_3.out) (Kd.R_typed HO223.out) (by decide) hg); have n1_ := am (blk_grown (g := gb217) (o := .cells #[.int .i64 a0_0, .string a0_1, .int .i64 a0_2, .int .i64 a0_3, .slice A0_4 l0_4.length c0_4] 28 (0, 0)) (zB BK217.out) hg (Kd.R_ne HO223.out BK217.out (by decide))); have n2_ := am (hp_); have n3_ := am ((by rw [hw]; exact below_set (HB.out) GB17.out : Below w.heap.size w w33)); clear HO_3 BK217 HO223 HB; have HO_3 := n0_; have BK217 := n1_; have HO223 := n2_; have HB := n3_; clear n0_ n1_ n2_ n3_; clear hg hw hp_; obtain ⟨hcz34_0, hcz34_1, hcz34_2, hcz34_3, hcz34_4, hfz34_0, hfz34_1, hfz34_2, hfz34_3, hfz34_4⟩ := b5 BK217.out) | (go_at_call 33; refine calls_of_args (args' := #[.agg #[.int .i64 a0_0, .string a0_1, .int .i64 a0_2, .int .i64 a0_3, .slice A0_4 l0_4.length c0_4], .slice Ao11 t218.length co11, .slice (some ⟨go17, 0, none⟩) y224.length co17]) (by first | (rw [show y224.length = y221.length from (Kd.R_reads' HO223.out).1.symm] <;> rfl) | rfl) ?_; (with_reducible refine (formula_holds.calls k1 a0_0 a0_1 a0_2 a0_3 _ _ l0_4 _ _ t218 _ _ y224 t225 _ ?side1 ?side2 ?side3 ?side4 ?side5 ?side6 A19.out).mono ?_); (case side1 => exact zC (Kd.C_below HR0_4.out HB.out)); (case side2 => exact HC0_4.out); (case side3 => exact zC (Kd.R_reads' HO_3.out).2.2); (case side4 => exact (Kd.R_reads' HO_3.out).2.1); (case side5 => exact zC (Kd.R_reads' HO223.out).2.2); (case side6 => rw [show y224.length = y221.length from (Kd.R_reads' HO223.out).1.symm]; exact (Kd.R_reads' HO223.out).2.1); rintro e w35 ⟨rfl, hb⟩; have n0_ := am (Kd.R_below (zR HO_3.out) hb); have n1_ := am (Kd.R_below (zR HO223.out) hb); have n2_ := am (blk_below (zB BK217.out) hb); have n3_ := am (below_step (zL HB.out) hb); clear HO_3 HO223 BK217 HB; have HO_3 := n0_; have HO223 := n1_; have BK217 := n2_; have HB := n3_; clear n0_ n1_ n2_ n3_; (try clear hb); (try clear hb2); (try clear hk); (try clear hi)))
           go_roundg k1
           case measure => have := HK1.out; omega
           case rel => exact ⟨(false), (t225), (wrap64 (x17_1 + 1)), (by first | rfl | (simp; done) | (simp [*]; done)), (by first | rfl | (simp; done) | (simp [*]; done)), (by first | rfl | (simp; done) | (simp [*]; done)), H', ⟨by have := HK1.out; omega⟩, ⟨by exact zR HO_3.out⟩, ⟨by exact zB <| BK217.out⟩, ⟨by repeat (first | (with_reducible first | exact HB.out | apply ba | apply bd | apply be | refine below_set ?_ GE217.out) | exact HB.out)⟩⟩
         ·replace c18 := Bool.eq_false_iff.mpr c18
          subst c18
          have H1 : (if x4_1 = true then ((formula_Hopeless.f k1 a0_0 a0_1 a0_2 a0_3 l0_4 y224).bind fun t227 => (formula_Class.l0 k1 t218 t227 false (t218.length : Int) (wrap64 (x17_1 + 1)) a0_0 a0_1 a0_2 a0_3 l0_4)) else (formula_Class.l0 k1 t218 false false (t218.length : Int) (wrap64 (x17_1 + 1)) a0_0 a0_1 a0_2 a0_3 l0_4)) = some r := by rw [if_neg (show ¬ (false = true) by decide)] at H; exact H
          clear H
          have H := H1
          clear H1
          by_cases c36 : x4_1 = true
          ·subst c36
           have H1 : ((formula_Hopeless.f k1 a0_0 a0_1 a0_2 a0_3 l0_4 y224).bind fun t227 => (formula_Class.l0 k1 t218 t227 false (t218.length : Int) (wrap64 (x17_1 + 1)) a0_0 a0_1 a0_2 a0_3 l0_4)) = some r := by rw [if_pos rfl] at H; exact H
           clear H
           have H := H1
           clear H1
           replace H := Option.bind_eq_some_iff.mp H
           obtain ⟨t227, A370, H⟩ := H
           replace H : (formula_Class.l0 k1 t218 t227 false (t218.length : Int) (wrap64 (x17_1 + 1)) a0_0 a0_1 a0_2 a0_3 l0_4) = some r := H
           have A37 := Aside0.mk A370
           clear A370
           have H' := Aside0.mk H
           clear H
           go_wp2_with (first | ((with_reducible refine gate_dst (N := 22) rfl ?_); refine Kd.R_make Kd.bool _ 4 rfl (N := 22) rfl 33 _ _ rfl (t218.length : Int) rfl rfl Try.underlying33 (.bool false) 1 info4 rfl (by decide) (by omega) false (ok := fun _ => True) (okp := fun _ => True) rfl (fun _ hk => hk) trivial (of_decide_eq_true (by first | (with_reducible assumption) | assumption)) (Nat.le_trans (Nat.mul_le_mul_right _ (of_decide_eq_true (by first | (with_reducible assumption) | assumption) : (t218.length : Int).toNat ≤ 281474976710656)) (by omega)) (Below.refl _ _) (Nat.le_refl _) ?_; intro v222 w38 ho39 hb hg_ hnew_; clear hg_ hnew_; (first | rw [← Ny221.out] at ho39 | (simp only [Int.reduceToNat] at ho39; rw [← Ny221.out] at ho39)); have n0_ := am (Kd.R_below (zR HO_3.out) hb); have n1_ := am (Kd.R_lower ho39 (below_size (zL HB.out))); have n2_ := am (blk_below (zB BK217.out) hb); have n3_ := am (below_step (zL HB.out) hb); clear HO_3 BK217 HB; have HO_3 := n0_; have HO223 := n1_; have BK217 := n2_; have HB := n3_; clear n0_ n1_ n2_ n3_; clear hb ho39; have p17 : 0 ≤ (x17_1 : Int) := of_decide_eq_true (by first | (with_reducible assumption) | assumption); have q17 : (x17_1 : Int) < ((y221.length : Int) : Int) := of_decide_eq_true (by first | (with_reducible assumption) | assumption); obtain ⟨go17, co17, eo17, gb17, gl17, cl17, HG17⟩ := Kd.R_form HO223.out (by omega); (first | cases eo17 | (injection eo17 with ea_ en_ ec_; (first | subst ea_ | (injection ea_ with ea_; subst ea_)); subst ec_; clear en_)); have GB17 := Aside0.mk gb17; have GG17 := Aside0.mk HG17; clear gb17 gl17 HG17; obtain ⟨hx17_0, hf17_0⟩ := Kd.R_celln false HO223.out (x17_1 : Int) p17 q17; replace p17 := eq_true p17; replace q17 := eq_true q17; obtain ⟨hy40_, hz40_⟩ := Kd.R_celln false HO223.out (x17_1 : Int) (of_decide_eq_true (by first | (with_reducible assumption) | assumption)) (of_decide_eq_true (by first | (with_reducible assumption) | assumption)); have HP40 := Kd.R_putg HO223.out (x17_1 : Int) true) | ((with_reducible refine gate_store (t := 4) (p := 25) rfl ?_); refine store_event (t := 4) (p := 25) (v := ?vo_w41) (w1 := (w38.setCell ⟨go17, (x17_1 : Int).toNat, none⟩ (.bool true))) ?hg ?ho ?hn ?hr ?_; (case ho => rfl); (case hg => rfl); (case hn => rfl); (case hr => first | (go_simp; done) | (go_simp; rfl)); intro w41 hw; have hg : w38.grownBy w41 (some go17) := (by rw [hw]; exact HP40.2); have hp_ : Kd.R Kd.bool 4 w41 w.heap.size (fun _ => True) (.slice (some ⟨go17, 0, none⟩) y221.length co17) y224 := (by rw [hw, Ny224.out]; exact HP40.1); clear HP40; have n0_ := am (Kd.R_over' (v := (.slice (some ⟨go17, 0, none⟩) y221.length co17)) (zR HO_3.out) (Kd.R_typed HO223.out) (by decide) hg); have n1_ := am (blk_grown (g := gb217) (o := .cells #[.int .i64 a0_0, .string a0_1, .int .i64 a0_2, .int .i64 a0_3, .slice A0_4 l0_4.length c0_4] 28 (0, 0)) (zB BK217.out) hg (Kd.R_ne HO223.out BK217.out (by decide))); have n2_ := am (hp_); have n3_ := am ((by rw [hw]; exact below_set (HB.out) GB17.out : Below w.heap.size w w41)); clear HO_3 BK217 HO223 HB; have HO_3 := n0_; have BK217 := n1_; have HO223 := n2_; have HB := n3_; clear n0_ n1_ n2_ n3_; clear hg hw hp_; obtain ⟨hcz42_0, hcz42_1, hcz42_2, hcz42_3, hcz42_4, hfz42_0, hfz42_1, hfz42_2, hfz42_3, hfz42_4⟩ := b5 BK217.out) | (go_at_call 17; refine calls_of_args (args' := #[.agg #[.int .i64 a0_0, .string a0_1, .int .i64 a0_2, .int .i64 a0_3, .slice A0_4 l0_4.length c0_4], .slice (some ⟨go17, 0, none⟩) y224.length co17]) (by first | (rw [show y224.length = y221.length from (Kd.R_reads' HO223.out).1.symm] <;> rfl) | rfl) ?_; (with_reducible refine (formula_Hopeless.calls k1 a0_0 a0_1 a0_2 a0_3 _ _ l0_4 _ _ y224 t227 _ ?side1 ?side2 ?side3 ?side4 A37.out).mono ?_); (case side1 => exact zC (Kd.C_below HR0_4.out HB.out)); (case side2 => exact HC0_4.out); (case side3 => exact zC (Kd.R_reads' HO223.out).2.2); (case side4 => rw [show y224.length = y221.length from (Kd.R_reads' HO223.out).1.symm]; exact (Kd.R_reads' HO223.out).2.1); rintro e w43 ⟨rfl, hb⟩; have n0_ := am (Kd.R_below (zR HO_3.out) hb); have n1_ := am (Kd.R_below (zR HO223.out) hb); have n2_ := am (blk_below (zB BK217.out) hb); have n3_ := am (below_step (zL HB.out) hb); clear HO_3 HO223 BK217 HB; have HO_3 := n0_; have HO223 := n1_; have BK217 := n2_; have HB := n3_; clear n0_ n1_ n2_ n3_; (try clear hb); (try clear hb2); (try clear hk); (try clear hi)))
           go_roundg k1
           case measure => have := HK1.out; omega
           case rel => exact ⟨(t227), (false), (wrap64 (x17_1 + 1)), (by first | rfl | (simp; done) | (simp [*]; done)), (by first | rfl | (simp; done) | (simp [*]; done)), (by first | rfl | (simp; done) | (simp [*]; done)), H', ⟨by have := HK1.out; omega⟩, ⟨by exact zR HO_3.out⟩, ⟨by exact zB <| BK217.out⟩, ⟨by repeat (first | (with_reducible first | exact HB.out | apply ba | apply bd | apply be | refine below_set ?_ GE217.out) | exact HB.out)⟩⟩
          ·replace c36 := Bool.eq_false_iff.mpr c36
           subst c36
           have H1 : (formula_Class.l0 k1 t218 false false (t218.length : Int) (wrap64 (x17_1 + 1)) a0_0 a0_1 a0_2 a0_3 l0_4) = some r := by rw [if_neg (show ¬ (false = true) by decide)] at H; exact H
           clear H
           have H := H1
           clear H1
           have H' := Aside0.mk H
           clear H
           go_wp2_with (first | ((with_reducible refine gate_dst (N := 22) rfl ?_); refine Kd.R_make Kd.bool _ 4 rfl (N := 22) rfl 33 _ _ rfl (t218.length : Int) rfl rfl Try.underlying33 (.bool false) 1 info4 rfl (by decide) (by omega) false (ok := fun _ => True) (okp := fun _ => True) rfl (fun _ hk => hk) trivial (of_decide_eq_true (by first | (with_reducible assumption) | assumption)) (Nat.le_trans (Nat.mul_le_mul_right _ (of_decide_eq_true (by first | (with_reducible assumption) | assumption) : (t218.length : Int).toNat ≤ 281474976710656)) (by omega)) (Below.refl _ _) (Nat.le_refl _) ?_; intro v222 w44 ho45 hb hg_ hnew_; clear hg_ hnew_; (first | rw [← Ny221.out] at ho45 | (simp only [Int.reduceToNat] at ho45; rw [← Ny221.out] at ho45)); have n0_ := am (Kd.R_below (zR HO_3.out) hb); have n1_ := am (Kd.R_lower ho45 (below_size (zL HB.out))); have n2_ := am (blk_below (zB BK217.out) hb); have n3_ := am (below_step (zL HB.out) hb); clear HO_3 BK217 HB; have HO_3 := n0_; have HO223 := n1_; have BK217 := n2_; have HB := n3_; clear n0_ n1_ n2_ n3_; clear hb ho45; have p17 : 0 ≤ (x17_1 : Int) := of_decide_eq_true (by first | (with_reducible assumption) | assumption); have q17 : (x17_1 : Int) < ((y221.length : Int) : Int) := of_decide_eq_true (by first | (with_reducible assumption) | assumption); obtain ⟨go17, co17, eo17, gb17, gl17, cl17, HG17⟩ := Kd.R_form HO223.out (by omega); (first | cases eo17 | (injection eo17 with ea_ en_ ec_; (first | subst ea_ | (injection ea_ with ea_; subst ea_)); subst ec_; clear en_)); have GB17 := Aside0.mk gb17; have GG17 := Aside0.mk HG17; clear gb17 gl17 HG17; obtain ⟨hx17_0, hf17_0⟩ := Kd.R_celln false HO223.out (x17_1 : Int) p17 q17; replace p17 := eq_true p17; replace q17 := eq_true q17; obtain ⟨hy46_, hz46_⟩ := Kd.R_celln false HO223.out (x17_1 : Int) (of_decide_eq_true (by first | (with_reducible assumption) | assumption)) (of_decide_eq_true (by first | (with_reducible assumption) | assumption)); have HP46 := Kd.R_putg HO223.out (x17_1 : Int) true) | ((with_reducible refine gate_store (t := 4) (p := 25) rfl ?_); refine store_event (t := 4) (p := 25) (v := ?vo_w47) (w1 := (w44.setCell ⟨go17, (x17_1 : Int).toNat, none⟩ (.bool true))) ?hg ?ho ?hn ?hr ?_; (case ho => rfl); (case hg => rfl); (case hn => rfl); (case hr => first | (go_simp; done) | (go_simp; rfl)); intro w47 hw; have hg : w44.grownBy w47 (some go17) := (by rw [hw]; exact HP46.2); have hp_ : Kd.R Kd.bool 4 w47 w.heap.size (fun _ => True) (.slice (some ⟨go17, 0, none⟩) y221.length co17) y224 := (by rw [hw, Ny224.out]; exact HP46.1); clear HP46; have n0_ := am (Kd.R_over' (v := (.slice (some ⟨go17, 0, none⟩) y221.length co17)) (zR HO_3.out) (Kd.R_typed HO223.out) (by decide) hg); have n1_ := am (blk_grown (g := gb217) (o := .cells #[.int .i64 a0_0, .string a0_1, .int .i64 a0_2, .int .i64 a0_3, .slice A0_4 l0_4.length c0_4] 28 (0, 0)) (zB BK217.out) hg (Kd.R_ne HO223.out BK217.out (by decide))); have n2_ := am (hp_); have n3_ := am ((by rw [hw]; exact below_set (HB.out) GB17.out : Below w.heap.size w w47)); clear HO_3 BK217 HO223 HB; have HO_3 := n0_; have BK217 := n1_; have HO223 := n2_; have HB := n3_; clear n0_ n1_ n2_ n3_; clear hg hw hp_))
           go_roundg k1
           case measure => have := HK1.out; omega
           case rel => exact ⟨(false), (false), (wrap64 (x17_1 + 1)), (by first | rfl | (simp; done) | (simp [*]; done)), (by first | rfl | (simp; done) | (simp [*]; done)), (by first | rfl | (simp; done) | (simp [*]; done)), H', ⟨by have := HK1.out; omega⟩, ⟨by exact zR HO_3.out⟩, ⟨by exact zB <| BK217.out⟩, ⟨by repeat (first | (with_reducible first | exact HB.out | apply ba | apply bd | apply be | refine below_set ?_ GE217.out) | exact HB.out)⟩⟩
        ·rw [if_neg c16] at H
         exact absurd H (by simp)
       ·rw [if_neg c15] at H
        exact absurd H (by simp)
      ·rw [if_neg c14] at H
       exact absurd H (by simp)
     ·rw [if_neg c13] at H
      exact absurd H (by simp)
    ·rw [if_neg c12] at H
     have c12b0 : decide (x17_1 < (t218.length : Int)) = false := decide_eq_false c12
     clear c12
     by_cases c48 : x4_1 = true
     ·subst c48
      have H1 : (some 2) = some r := by rw [if_pos rfl] at H; exact H
      clear H
      have H := H1
      clear H1
      obtain rfl := Option.some.inj H
      go_wp2
      go_ret
      exact ⟨by first | rfl | (simp [errW_none, errW_some] <;> rfl) | (simp [*, errW_none, errW_some] <;> rfl), by repeat (first | (with_reducible first | exact HB.out | apply ba | apply bd | apply be | refine below_set ?_ GE217.out) | exact HB.out)⟩
     ·replace c48 := Bool.eq_false_iff.mpr c48
      subst c48
      have H1 : (if x5_1 = true then (some 3) else (some 4)) = some r := by rw [if_neg (show ¬ (false = true) by decide)] at H; exact H
      clear H
      have H := H1
      clear H1
      by_cases c49 : x5_1 = true
      ·subst c49
       have H1 : (some 3) = some r := by rw [if_pos rfl] at H; exact H
       clear H
       have H := H1
       clear H1
       obtain rfl := Option.some.inj H
       go_wp2
       go_ret
       exact ⟨by first | rfl | (simp [errW_none, errW_some] <;> rfl) | (simp [*, errW_none, errW_some] <;> rfl), by repeat (first | (with_reducible first | exact HB.out | apply ba | apply bd | apply be | refine below_set ?_ GE217.out) | exact HB.out)⟩
      ·replace c49 := Bool.eq_false_iff.mpr c49
       subst c49
       have H1 : (some 4) = some r := by rw [if_neg (show ¬ (false = true) by decide)] at H; exact H
       clear H
       have H := H1
       clear H1
       obtain rfl := Option.some.inj H
       go_wp2
       go_ret
       exact ⟨by first | rfl | (simp [errW_none, errW_some] <;> rfl) | (simp [*, errW_none, errW_some] <;> rfl), by repeat (first | (with_reducible first | exact HB.out | apply ba | apply bd | apply be | refine below_set ?_ GE217.out) | exact HB.out)⟩

end Go.Proofs.Ytefbcebpokoinaa.Y

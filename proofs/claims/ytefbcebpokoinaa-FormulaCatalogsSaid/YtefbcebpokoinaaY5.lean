-- Laid by a program of this session's (xprint.py, which runs the kit's print.py with patches of its own). Lean checks it.
import Derived.Test.YtefbcebpokoinaaY0
import Derived.Test.YtefbcebpokoinaaY4
namespace Go.Proofs.Ytefbcebpokoinaa.Y
open Go.RowKit Go.Proofs.YtefbcebpokoinaaW.PrintWords Go.Proofs.YtefbcebpokoinaaW.PrintLast Go.Proofs.YtefbcebpokoinaaW.PrintMore
attribute [local go_sem] max2_int min2_int max_two min_two max_three min_three max_four min_four   -- for this text's walks alone
set_option linter.unusedVariables false
set_option linter.unusedSimpArgs false

/-! ### formula_Atoms: function 12 -/
def formula_Atoms.f (k : Nat) (a0_0 : Int) (a0_1 : ByteArray) (a0_2 : Int) (a0_3 : Int) (l0_4 : List (S28)) : Option ((List (S25))) := (request_ValidExpr.f k a0_0 a0_1 a0_2 a0_3 l0_4).bind fun t133 => (if t133 = true then ((formula_collect.f k ([] : List (S25)) a0_0 a0_1 a0_2 a0_3 l0_4).bind fun t134 => (some t134)) else (some ([] : List (S25))))
theorem formula_Atoms.mono : ∀ a0 a1 a2 a3 a4 k, LeO (formula_Atoms.f k a0 a1 a2 a3 a4) (formula_Atoms.f (k + 1) a0 a1 a2 a3 a4) := by
 intro a0 a1 a2 a3 a4 k
 unfold formula_Atoms.f
 repeat' first
   | (with_reducible exact formula_collect.mono _ _ _ _ _ _ _)
   | (with_reducible exact request_ValidExpr.mono _ _ _ _ _ _)
   | (with_reducible exact LeO.refl _)
   | (with_reducible exact LeO.none _)
   | (with_reducible refine LeO.ite ?_ ?_)
   | (with_reducible refine LeO.bind ?_ (fun _ => ?_))
   | exact formula_collect.mono _ _ _ _ _ _ _
   | exact request_ValidExpr.mono _ _ _ _ _ _
   | exact LeO.none _
   | refine LeO.ite ?_ ?_
   | refine LeO.bind ?_ (fun _ => ?_)
set_option maxHeartbeats 8000000 in
set_option maxRecDepth 100000 in
theorem formula_Atoms.calls (k : Nat) (a0_0 : Int) (a0_1 : ByteArray) (a0_2 : Int) (a0_3 : Int) (A0_4 : Option Addr) (c0_4 : Nat) (l0_4 : List (S28)) (r : List (S25)) (w : World) (hr0_4 : Kd.C k28 w A0_4 l0_4.length l0_4) (hc0_4 : l0_4.length ≤ c0_4) (h : formula_Atoms.f k a0_0 a0_1 a0_2 a0_3 l0_4 = some r) :
  Calls Try.prog 12 #[.agg #[.int .i64 a0_0, .string a0_1, .int .i64 a0_2, .int .i64 a0_3, .slice A0_4 l0_4.length c0_4]] w fun e w' => ∃ v0_ : Value, e = .returned (v0_) ∧ Kd.R k25 25 w' w.heap.size (fun _ => True) v0_ r ∧ Below w.heap.size w w' := by
 have hu28 := Try.underlying28
 have HR0_4 := Aside0.mk hr0_4
 have HC0_4 := Aside0.mk hc0_4
 clear hr0_4 hc0_4
 have HB := am (Below.refl w.heap.size w)
 have H : ((request_ValidExpr.f k a0_0 a0_1 a0_2 a0_3 l0_4).bind fun t133 => (if t133 = true then ((formula_collect.f k ([] : List (S25)) a0_0 a0_1 a0_2 a0_3 l0_4).bind fun t134 => (some t134)) else (some ([] : List (S25))))) = some r := h
 clear h
 replace H := Option.bind_eq_some_iff.mp H
 obtain ⟨t133, A20, H⟩ := H
 replace H : (if t133 = true then ((formula_collect.f k ([] : List (S25)) a0_0 a0_1 a0_2 a0_3 l0_4).bind fun t134 => (some t134)) else (some ([] : List (S25)))) = some r := H
 have A2 := Aside0.mk A20
 clear A20
 by_cases c3 : t133 = true
 ·subst c3
  have H1 : ((formula_collect.f k ([] : List (S25)) a0_0 a0_1 a0_2 a0_3 l0_4).bind fun t134 => (some t134)) = some r := by rw [if_pos rfl] at H; exact H
  clear H
  have H := H1
  clear H1
  replace H := Option.bind_eq_some_iff.mp H
  obtain ⟨t134, A40, H⟩ := H
  replace H : (some t134) = some r := H
  have A4 := Aside0.mk A40
  clear A40
  obtain rfl := Option.some.inj H
  go_enter Try.func12, Try.ntmps12
  go_wp2_with (first | ((with_reducible refine gate_dst (N := 1) rfl ?_); refine box_event ?hg (N := 1) ?hd (cs := #[.int .i64 a0_0, .string a0_1, .int .i64 a0_2, .int .i64 a0_3, .slice A0_4 l0_4.length c0_4]) (t := 28) ?hr ?_; (case hd => rfl); (case hg => rfl); (case hr => first | (go_simp; done) | (go_simp; rfl)); intro gb132 hg w5 hbox hb; have n0_ := am (below_step (zL HB.out) hb); have n1_ := am (hbox); have n2_ := am (zS hg HB.out); have n3_ := am (zS hg HB.out); clear HB; have HB := n0_; have BK132 := n1_; have GW132 := n2_; have GE132 := n3_; clear n0_ n1_ n2_ n3_; clear hb hbox hg; obtain ⟨hcz6_0, hcz6_1, hcz6_2, hcz6_3, hcz6_4, hfz6_0, hfz6_1, hfz6_2, hfz6_3, hfz6_4⟩ := b5 BK132.out) | ((with_reducible refine gate_callee (f := 30) rfl ?_); refine goesL_ (some 4) rfl rfl Try.func30 (by kernel_rfl) rfl #[.agg #[.int .i64 a0_0, .string a0_1, .int .i64 a0_2, .int .i64 a0_3, .slice A0_4 l0_4.length c0_4]] rfl mp1 ?_; (with_reducible refine (request_ValidExpr.calls k a0_0 a0_1 a0_2 a0_3 _ _ l0_4 true _ ?side1 ?side2 A2.out).mono ?_); (case side1 => exact zC (Kd.C_below HR0_4.out HB.out)); (case side2 => exact HC0_4.out); rintro e w7 ⟨rfl, hb⟩; refine ⟨_, rfl, ?_⟩; have n0_ := am (blk_below (zB BK132.out) hb); have n1_ := am (below_step (zL HB.out) hb); clear BK132 HB; have BK132 := n0_; have HB := n1_; clear n0_ n1_; (try clear hb); (try clear hb2); (try clear hk); (try clear hi); obtain ⟨hcz8_0, hcz8_1, hcz8_2, hcz8_3, hcz8_4, hfz8_0, hfz8_1, hfz8_2, hfz8_3, hfz8_4⟩ := b5 BK132.out) | ((with_reducible refine gate_callee (f := 31) rfl ?_); refine goesL_ (some 7) rfl rfl Try.func31 (by kernel_rfl) rfl #[.slice none 0 0, .agg #[.int .i64 a0_0, .string a0_1, .int .i64 a0_2, .int .i64 a0_3, .slice A0_4 l0_4.length c0_4]] rfl mp2 ?_; (refine (formula_collect.calls k (fun k_ => some k_ = (.slice none 0 0 : Value).ownBlock) (.slice none 0 0) ([] : List (S25)) a0_0 a0_1 a0_2 a0_3 _ _ l0_4 t134 w _ ?side1 ?side2 ?side3 ?side4 A4.out).mono ?_); (case side1 => exact zL HB.out); (case side2 => exact Kd.R_nil _ _ _ _ _); (case side3 => exact Kd.C_kept_came k28_heap HR0_4.out (zL HB.out) (fun k_ hs_ => (fun e_ => by simp [Value.ownBlock] at e_) hs_)); (case side4 => exact HC0_4.out); rintro e w9 ⟨v135, rfl, ho0, hb, hkp⟩; refine ⟨_, rfl, ?_⟩; have n0_ := am (blk_kept (zB BK132.out) hkp (fun hs_ => (fun e_ => by simp [Value.ownBlock] at e_) hs_)); have n1_ := am (Kd.R_mono (ok' := fun k_ => True) ho0 (fun k_ hk_ => trivial)); have n2_ := am (hb); clear BK132 HB; have BK132 := n0_; have HO136 := n1_; have HB := n2_; clear n0_ n1_ n2_; (try clear hb); (try clear hkp); (try clear ho0)))
  go_ret
  exact ⟨_, by first | rfl | (simp [errW_none, errW_some] <;> rfl) | (simp [*, errW_none, errW_some] <;> rfl), by exact zR HO136.out, by repeat (first | (with_reducible first | exact HB.out | apply ba | apply bd | apply be | refine below_set ?_ GE132.out) | exact HB.out)⟩
 ·replace c3 := Bool.eq_false_iff.mpr c3
  subst c3
  have H1 : (some ([] : List (S25))) = some r := by rw [if_neg (show ¬ (false = true) by decide)] at H; exact H
  clear H
  have H := H1
  clear H1
  obtain rfl := Option.some.inj H
  go_enter Try.func12, Try.ntmps12
  go_wp2_with (first | ((with_reducible refine gate_dst (N := 1) rfl ?_); refine box_event ?hg (N := 1) ?hd (cs := #[.int .i64 a0_0, .string a0_1, .int .i64 a0_2, .int .i64 a0_3, .slice A0_4 l0_4.length c0_4]) (t := 28) ?hr ?_; (case hd => rfl); (case hg => rfl); (case hr => first | (go_simp; done) | (go_simp; rfl)); intro gb132 hg w10 hbox hb; have n0_ := am (below_step (zL HB.out) hb); have n1_ := am (hbox); have n2_ := am (zS hg HB.out); have n3_ := am (zS hg HB.out); clear HB; have HB := n0_; have BK132 := n1_; have GW132 := n2_; have GE132 := n3_; clear n0_ n1_ n2_ n3_; clear hb hbox hg; obtain ⟨hcz11_0, hcz11_1, hcz11_2, hcz11_3, hcz11_4, hfz11_0, hfz11_1, hfz11_2, hfz11_3, hfz11_4⟩ := b5 BK132.out) | ((with_reducible refine gate_callee (f := 30) rfl ?_); refine goesL_ (some 4) rfl rfl Try.func30 (by kernel_rfl) rfl #[.agg #[.int .i64 a0_0, .string a0_1, .int .i64 a0_2, .int .i64 a0_3, .slice A0_4 l0_4.length c0_4]] rfl mp1 ?_; (with_reducible refine (request_ValidExpr.calls k a0_0 a0_1 a0_2 a0_3 _ _ l0_4 false _ ?side1 ?side2 A2.out).mono ?_); (case side1 => exact zC (Kd.C_below HR0_4.out HB.out)); (case side2 => exact HC0_4.out); rintro e w12 ⟨rfl, hb⟩; refine ⟨_, rfl, ?_⟩; have n0_ := am (blk_below (zB BK132.out) hb); have n1_ := am (below_step (zL HB.out) hb); clear BK132 HB; have BK132 := n0_; have HB := n1_; clear n0_ n1_; (try clear hb); (try clear hb2); (try clear hk); (try clear hi)))
  go_ret
  exact ⟨_, by first | rfl | (simp [errW_none, errW_some] <;> rfl) | (simp [*, errW_none, errW_some] <;> rfl), by first | exact Kd.R_nil _ _ _ _ _ | exact Kd.N_nil _ _ _ _ _ | exact Kd.V_nil _ _ _ _ _ | exact Kd.Q_nil _ _ _ _ _ | exact Kd.S_nil _ _ _ _ _, by repeat (first | (with_reducible first | exact HB.out | apply ba | apply bd | apply be | refine below_set ?_ GE132.out) | exact HB.out)⟩

/-! ### clusterlocksref07_Size: function 57 -/
mutual
def clusterlocksref07_Size.j0 : Nat → Int → Bool → Int → ByteArray → Int → Int → List (S28) → Option (Int × Int)
 | 0, _, _, _, _, _, _, _ => none
 | k + 1, x1, x18, x138000, x138001, x138002, x138003, x138004 => if x18 = true then (some (25, 0)) else (clusterlocksref07_Size.l0 k x1 1 0 0 x138000 x138001 x138002 x138003 x138004)
def clusterlocksref07_Size.l0 : Nat → Int → Int → Int → Int → Int → ByteArray → Int → Int → List (S28) → Option (Int × Int)
 | 0, _, _, _, _, _, _, _, _, _ => none
 | k + 1, x1, x6, x7, x8, x138000, x138001, x138002, x138003, x138004 => if x8 < (x138004.length : Int) then (if 0 ≤ x8 then ((clusterlocksref07_Size.f k ((rd_T28 x138004 x8).f0) ((rd_T28 x138004 x8).f1.f0) ((rd_T28 x138004 x8).f1.f1.f0) ((rd_T28 x138004 x8).f1.f1.f1) ((rd_T28 x138004 x8).f2) (wrap64 (x1 + 1))).bind fun bt139 => (if bt139.2 > x7 then (if (wrap64 (x6 + bt139.1)) > 24 then (some (25, 0)) else (clusterlocksref07_Size.l0 k x1 (wrap64 (x6 + bt139.1)) bt139.2 (wrap64 (x8 + 1)) x138000 x138001 x138002 x138003 x138004)) else (if (wrap64 (x6 + bt139.1)) > 24 then (some (25, 0)) else (clusterlocksref07_Size.l0 k x1 (wrap64 (x6 + bt139.1)) x7 (wrap64 (x8 + 1)) x138000 x138001 x138002 x138003 x138004)))) else (none)) else (some (x6, wrap64 (x7 + 1)))
def clusterlocksref07_Size.f : Nat → Int → ByteArray → Int → Int → List (S28) → Int → Option (Int × Int)
 | 0, _, _, _, _, _, _ => none
 | k + 1, a0_0, a0_1, a0_2, a0_3, l0_4, a1 => if a1 > 4 then (clusterlocksref07_Size.j0 k a1 true a0_0 a0_1 a0_2 a0_3 l0_4) else (clusterlocksref07_Size.j0 k a1 (decide ((l0_4.length : Int) > 24)) a0_0 a0_1 a0_2 a0_3 l0_4)
end
theorem clusterlocksref07_Size.mono_l : ∀ k, (∀ y0 y1 y2 y3 y4 y5, LeO (clusterlocksref07_Size.f k y0 y1 y2 y3 y4 y5) (clusterlocksref07_Size.f (k + 1) y0 y1 y2 y3 y4 y5)) ∧ (∀ y0 y1 y2 y3 y4 y5 y6, LeO (clusterlocksref07_Size.j0 k y0 y1 y2 y3 y4 y5 y6) (clusterlocksref07_Size.j0 (k + 1) y0 y1 y2 y3 y4 y5 y6)) ∧ (∀ y0 y1 y2 y3 y4 y5 y6 y7 y8, LeO (clusterlocksref07_Size.l0 k y0 y1 y2 y3 y4 y5 y6 y7 y8) (clusterlocksref07_Size.l0 (k + 1) y0 y1 y2 y3 y4 y5 y6 y7 y8))
 | 0 => ⟨fun _ _ _ _ _ _ r h => by simp [clusterlocksref07_Size.f] at h, fun _ _ _ _ _ _ _ r h => by simp [clusterlocksref07_Size.j0] at h, fun _ _ _ _ _ _ _ _ _ r h => by simp [clusterlocksref07_Size.l0] at h⟩
 | k + 1 => by
  obtain ⟨ih0, ih1, ih2⟩ := clusterlocksref07_Size.mono_l k
  refine ⟨?_, ?_, ?_⟩
  ·intro y0 y1 y2 y3 y4 y5
   unfold clusterlocksref07_Size.f
   repeat' first
   | (with_reducible exact ih0 _ _ _ _ _ _)
   | (with_reducible exact ih1 _ _ _ _ _ _ _)
   | (with_reducible exact ih2 _ _ _ _ _ _ _ _ _)
   | (with_reducible exact LeO.refl _)
   | (with_reducible exact LeO.none _)
   | (with_reducible refine LeO.ite ?_ ?_)
   | (with_reducible refine LeO.bind ?_ (fun _ => ?_))
   | exact ih0 _ _ _ _ _ _
   | exact ih1 _ _ _ _ _ _ _
   | exact ih2 _ _ _ _ _ _ _ _ _
   | exact LeO.none _
   | refine LeO.ite ?_ ?_
   | refine LeO.bind ?_ (fun _ => ?_)
  ·intro y0 y1 y2 y3 y4 y5 y6
   unfold clusterlocksref07_Size.j0
   repeat' first
   | (with_reducible exact ih0 _ _ _ _ _ _)
   | (with_reducible exact ih1 _ _ _ _ _ _ _)
   | (with_reducible exact ih2 _ _ _ _ _ _ _ _ _)
   | (with_reducible exact LeO.refl _)
   | (with_reducible exact LeO.none _)
   | (with_reducible refine LeO.ite ?_ ?_)
   | (with_reducible refine LeO.bind ?_ (fun _ => ?_))
   | exact ih0 _ _ _ _ _ _
   | exact ih1 _ _ _ _ _ _ _
   | exact ih2 _ _ _ _ _ _ _ _ _
   | exact LeO.none _
   | refine LeO.ite ?_ ?_
   | refine LeO.bind ?_ (fun _ => ?_)
  ·intro y0 y1 y2 y3 y4 y5 y6 y7 y8
   unfold clusterlocksref07_Size.l0
   repeat' first
   | (with_reducible exact ih0 _ _ _ _ _ _)
   | (with_reducible exact ih1 _ _ _ _ _ _ _)
   | (with_reducible exact ih2 _ _ _ _ _ _ _ _ _)
   | (with_reducible exact LeO.refl _)
   | (with_reducible exact LeO.none _)
   | (with_reducible refine LeO.ite ?_ ?_)
   | (with_reducible refine LeO.bind ?_ (fun _ => ?_))
   | exact ih0 _ _ _ _ _ _
   | exact ih1 _ _ _ _ _ _ _
   | exact ih2 _ _ _ _ _ _ _ _ _
   | exact LeO.none _
   | refine LeO.ite ?_ ?_
   | refine LeO.bind ?_ (fun _ => ?_)
theorem clusterlocksref07_Size.mono : ∀ a0 a1 a2 a3 a4 a5 k, LeO (clusterlocksref07_Size.f k a0 a1 a2 a3 a4 a5) (clusterlocksref07_Size.f (k + 1) a0 a1 a2 a3 a4 a5) := by
 intro a0 a1 a2 a3 a4 a5 k
 obtain ⟨ih0, ih1, ih2⟩ := clusterlocksref07_Size.mono_l k
 exact ih0 a0 a1 a2 a3 a4 a5
set_option maxHeartbeats 8000000 in
set_option maxRecDepth 100000 in
theorem clusterlocksref07_Size.calls (k : Nat) : ∀ (a0_0 : Int) (a0_1 : ByteArray) (a0_2 : Int) (a0_3 : Int) (A0_4 : Option Addr) (c0_4 : Nat) (l0_4 : List (S28)) (a1 : Int) (r1 : Int) (r2 : Int) (w : World) (hr0_4 : Kd.C k28 w A0_4 l0_4.length l0_4) (hc0_4 : l0_4.length ≤ c0_4) (h : clusterlocksref07_Size.f k a0_0 a0_1 a0_2 a0_3 l0_4 a1 = some (r1, r2)),
  Calls Try.prog 57 #[.agg #[.int .i64 a0_0, .string a0_1, .int .i64 a0_2, .int .i64 a0_3, .slice A0_4 l0_4.length c0_4], .int .i64 a1] w fun e w' => e = .returned (.tuple #[.int .i64 r1, .int .i64 r2]) ∧ Below w.heap.size w w' := by
 induction k using Nat.strongRecOn with
 | _ k ih =>
 intro a0_0 a0_1 a0_2 a0_3 A0_4 c0_4 l0_4 a1 r1 r2 w hr0_4 hc0_4 h
 cases k with
 | zero => exact absurd h (by simp [clusterlocksref07_Size.f])
 | succ k =>
 simp only [clusterlocksref07_Size.f] at h
 have hu28 := Try.underlying28
 have HR0_4 := Aside0.mk hr0_4
 have HC0_4 := Aside0.mk hc0_4
 clear hr0_4 hc0_4
 have HB := am (Below.refl w.heap.size w)
 have H : (if a1 > 4 then (clusterlocksref07_Size.j0 k a1 true a0_0 a0_1 a0_2 a0_3 l0_4) else (clusterlocksref07_Size.j0 k a1 (decide ((l0_4.length : Int) > 24)) a0_0 a0_1 a0_2 a0_3 l0_4)) = some (r1, r2) := h
 clear h
 have HC3 := Aside0.mk H
 clear H
 go_enter Try.func57, Try.ntmps57
 go_upto_region 1 with (first | ((with_reducible refine gate_dst (N := 2) rfl ?_); (try (refine gate_guard (by rfl) ?_; dsimp only)); refine box_event ?hg (N := 2) ?hd (cs := #[.int .i64 a0_0, .string a0_1, .int .i64 a0_2, .int .i64 a0_3, .slice A0_4 l0_4.length c0_4]) (t := 28) ?hr ?_; (case hd => rfl); (case hg => rfl); (case hr => first | (go_simp; done) | (go_simp; rfl)); intro gb137 hg w4 hbox hb; have n0_ := am (below_step (zL HB.out) hb); have n1_ := am (hbox); have n2_ := am (zS hg HB.out); have n3_ := am (zS hg HB.out); clear HB; have HB := n0_; have BK137 := n1_; have GW137 := n2_; have GE137 := n3_; clear n0_ n1_ n2_ n3_; clear hb hbox hg))
 (try simp only [Act.put, List.setIfInBounds_toArray, List.set_cons_zero, List.set_cons_succ])
 go_cut [18] (fun v18 wc => ∃ (kq : Nat) (x18_2 : Bool), v18 = .bool x18_2 ∧ Aside0 (clusterlocksref07_Size.j0 kq a1 x18_2 a0_0 a0_1 a0_2 a0_3 l0_4 = some (r1, r2)) ∧ Aside0 (kq ≤ k) ∧ Aside0 (wc.heap[gb137]? = some (.cells #[.int .i64 a0_0, .string a0_1, .int .i64 a0_2, .int .i64 a0_3, (.slice A0_4 l0_4.length c0_4)] 28 (0, 0))) ∧ Aside0 (Below w.heap.size w wc))
 case first =>
  have H := HC3.out
  clear HC3
  by_cases c5 : a1 > 4
  ·rw [if_pos c5] at H
   have c5b0 : decide (4 < a1) = true := decide_eq_true c5
   clear c5
   (first | rw [c5b0] | (simp only [i64_w, i32_w]; rw [c5b0]) | skip)
   have H' := Aside0.mk H
   clear H
   go_wp2
   go_meet
   case rel => exact ⟨_, (true), (by first | rfl | (simp; done) | (simp [*]; done)), H', ⟨by first | omega | exact Nat.le_refl _⟩, ⟨by exact zB <| BK137.out⟩, ⟨by repeat (first | (with_reducible first | exact HB.out | apply ba | apply bd | apply be | refine below_set ?_ GE137.out) | exact HB.out)⟩⟩
  ·rw [if_neg c5] at H
   have c5b0 : decide (4 < a1) = false := decide_eq_false c5
   clear c5
   (first | rw [c5b0] | (simp only [i64_w, i32_w]; rw [c5b0]) | skip)
   have H' := Aside0.mk H
   clear H
   obtain ⟨hcz6_0, hcz6_1, hcz6_2, hcz6_3, hcz6_4, hfz6_0, hfz6_1, hfz6_2, hfz6_3, hfz6_4⟩ := b5 BK137.out
   go_wp2
   go_meet
   case rel => exact ⟨_, (decide ((l0_4.length : Int) > 24)), (by first | rfl | (simp; done) | (simp [*]; done)), H', ⟨by first | omega | exact Nat.le_refl _⟩, ⟨by exact zB <| BK137.out⟩, ⟨by repeat (first | (with_reducible first | exact HB.out | apply ba | apply bd | apply be | refine below_set ?_ GE137.out) | exact HB.out)⟩⟩
 case rest =>
  clear HC3
  try clear p2
  try clear c5
  try clear c5b0
  try clear hcz6_0
  try clear hcz6_1
  try clear hcz6_2
  try clear hcz6_3
  try clear hcz6_4
  try clear hfz6_0
  try clear hfz6_1
  try clear hfz6_2
  try clear hfz6_3
  try clear hfz6_4
  obtain ⟨kq, x18_2, rfl, HA, HJ2, BK137, HB⟩ := hcut
  cases kq with
  | zero => exact absurd HA.out (by simp [clusterlocksref07_Size.j0])
  | succ kj2 =>
   have H := HA.out
   clear HA
   simp only [clusterlocksref07_Size.j0] at H
   by_cases c7 : x18_2 = true
   ·subst c7
    have H1 : (some (25, 0)) = some (r1, r2) := by rw [if_pos rfl] at H; exact H
    clear H
    have H := H1
    clear H1
    simp only [Option.some.injEq, Prod.mk.injEq] at H
    obtain ⟨rfl, rfl⟩ := H
    go_wp2
    go_ret2
    exact ⟨by first | rfl | (simp [errW_none, errW_some] <;> rfl) | (simp [*, errW_none, errW_some] <;> rfl), by repeat (first | (with_reducible first | exact HB.out | apply ba | apply bd | apply be | refine below_set ?_ GE137.out) | exact HB.out)⟩
   ·replace c7 := Bool.eq_false_iff.mpr c7
    subst c7
    have H1 : (clusterlocksref07_Size.l0 kj2 a1 1 0 0 a0_0 a0_1 a0_2 a0_3 l0_4) = some (r1, r2) := by rw [if_neg (show ¬ (false = true) by decide)] at H; exact H
    clear H
    have H := H1
    clear H1
    have H' := Aside0.mk H
    clear H
    go_wp2
    go_loopg [6, 7, 8] kj2 (fun kq v6 v7 v8 w' => ∃ (x6_2 : Int) (x7_2 : Int) (x8_2 : Int), v6 = .int .i64 x6_2 ∧ v7 = .int .i64 x7_2 ∧ v8 = .int .i64 x8_2 ∧ Aside0 (clusterlocksref07_Size.l0 kq a1 x6_2 x7_2 x8_2 a0_0 a0_1 a0_2 a0_3 l0_4 = some (r1, r2)) ∧ Aside0 (kq ≤ kj2) ∧ Aside0 (w'.heap[gb137]? = some (.cells #[.int .i64 a0_0, .string a0_1, .int .i64 a0_2, .int .i64 a0_3, (.slice A0_4 l0_4.length c0_4)] 28 (0, 0))) ∧ Aside0 (Below w.heap.size w w'))
    case atStart => exact ⟨(1), (0), (0), (by first | rfl | (simp; done) | (simp [*]; done)), (by first | rfl | (simp; done) | (simp [*]; done)), (by first | rfl | (simp; done) | (simp [*]; done)), H', ⟨Nat.le_refl _⟩, ⟨by exact zB <| BK137.out⟩, ⟨by repeat (first | (with_reducible first | exact HB.out | apply ba | apply bd | apply be | refine below_set ?_ GE137.out) | exact HB.out)⟩⟩
    case round =>
     clear H'
     try clear p2
     try clear c5
     try clear c5b0
     try clear c7
     try clear hcz6_0
     try clear hcz6_1
     try clear hcz6_2
     try clear hcz6_3
     try clear hcz6_4
     try clear hfz6_0
     try clear hfz6_1
     try clear hfz6_2
     try clear hfz6_3
     try clear hfz6_4
     try clear p2
     obtain ⟨x6_2, x7_2, x8_2, rfl, rfl, rfl, HA, HK2, BK137, HB⟩ := hrel
     cases gk with
     | zero => exact absurd HA.out (by simp [clusterlocksref07_Size.l0])
     | succ k2 =>
      have H := HA.out
      clear HA
      simp only [clusterlocksref07_Size.l0] at H
      by_cases c8 : x8_2 < (l0_4.length : Int)
      ·rw [if_pos c8] at H
       have c8b0 : decide (x8_2 < (l0_4.length : Int)) = true := decide_eq_true c8
       clear c8
       by_cases c9 : 0 ≤ x8_2
       ·rw [if_pos c9] at H
        have c9b0 : decide (0 ≤ x8_2) = true := decide_eq_true c9
        clear c9
        replace H := Option.bind_eq_some_iff.mp H
        obtain ⟨⟨t139, t140⟩, A100, H⟩ := H
        replace H : (if t140 > x7_2 then (if (wrap64 (x6_2 + t139)) > 24 then (some (25, 0)) else (clusterlocksref07_Size.l0 k2 a1 (wrap64 (x6_2 + t139)) t140 (wrap64 (x8_2 + 1)) a0_0 a0_1 a0_2 a0_3 l0_4)) else (if (wrap64 (x6_2 + t139)) > 24 then (some (25, 0)) else (clusterlocksref07_Size.l0 k2 a1 (wrap64 (x6_2 + t139)) x7_2 (wrap64 (x8_2 + 1)) a0_0 a0_1 a0_2 a0_3 l0_4))) = some (r1, r2) := H
        have A10 := Aside0.mk A100
        clear A100
        by_cases c11 : t140 > x7_2
        ·rw [if_pos c11] at H
         have c11b0 : decide (x7_2 < t140) = true := decide_eq_true c11
         clear c11
         by_cases c12 : (wrap64 (x6_2 + t139)) > 24
         ·rw [if_pos c12] at H
          have c12b0 : decide (24 < (wrap64 (x6_2 + t139))) = true := decide_eq_true c12
          clear c12
          simp only [Option.some.injEq, Prod.mk.injEq] at H
          obtain ⟨rfl, rfl⟩ := H
          obtain ⟨hcz13_0, hcz13_1, hcz13_2, hcz13_3, hcz13_4, hfz13_0, hfz13_1, hfz13_2, hfz13_3, hfz13_4⟩ := b5 BK137.out
          have p138 : 0 ≤ (x8_2 : Int) := of_decide_eq_true (by first | (with_reducible assumption) | assumption)
          have q138 : x8_2 < (l0_4.length : Int) := of_decide_eq_true (by first | (with_reducible assumption) | assumption)
          obtain ⟨ad138, A138_4, c138_4, e138, hx138_0, hx138_1, hx138_2, hx138_3, hx138_4, hl138_4, hi138_4⟩ := at_T28 HR0_4.out x8_2 p138 q138
          cases e138
          replace hx138_0 := (HB.out.cell (World.block_lt_of_cell? w _ hx138_0)).trans hx138_0
          replace hx138_1 := (HB.out.cell (World.block_lt_of_cell? w _ hx138_1)).trans hx138_1
          replace hx138_2 := (HB.out.cell (World.block_lt_of_cell? w _ hx138_2)).trans hx138_2
          replace hx138_3 := (HB.out.cell (World.block_lt_of_cell? w _ hx138_3)).trans hx138_3
          replace hx138_4 := (HB.out.cell (World.block_lt_of_cell? w _ hx138_4)).trans hx138_4
          have HR138_4 := Aside0.mk hi138_4
          have HC138_4 := Aside0.mk hl138_4
          clear hi138_4 hl138_4
          replace p138 := eq_true p138
          replace q138 := eq_true q138
          go_wp2_with (first | ((with_reducible refine gate_callee (f := 57) rfl ?_); refine goesL_ (some 34) rfl rfl Try.func57 (by kernel_rfl) rfl #[.agg #[.int .i64 ((rd_T28 l0_4 x8_2).f0), .string ((rd_T28 l0_4 x8_2).f1.f0), .int .i64 ((rd_T28 l0_4 x8_2).f1.f1.f0), .int .i64 ((rd_T28 l0_4 x8_2).f1.f1.f1), .slice A138_4 ((rd_T28 l0_4 x8_2).f2).length c138_4], .int .i64 (wrap64 (a1 + 1))] rfl mp2 ?_; (with_reducible refine (ih k2 (by have := HJ2.out; have := HK2.out; omega) ((rd_T28 l0_4 x8_2).f0) ((rd_T28 l0_4 x8_2).f1.f0) ((rd_T28 l0_4 x8_2).f1.f1.f0) ((rd_T28 l0_4 x8_2).f1.f1.f1) _ _ ((rd_T28 l0_4 x8_2).f2) (wrap64 (a1 + 1)) t139 t140 _ ?side1 ?side2 A10.out).mono ?_); (case side1 => exact zC (Kd.C_below HR138_4.out HB.out)); (case side2 => exact HC138_4.out); rintro e w14 ⟨rfl, hb⟩; refine ⟨_, rfl, ?_⟩; have n0_ := am (blk_below (zB BK137.out) hb); have n1_ := am (below_step (zL HB.out) hb); clear BK137 HB; have BK137 := n0_; have HB := n1_; clear n0_ n1_; (try clear hb); (try clear hb2); (try clear hk); (try clear hi)))
          go_ret2
          exact ⟨by first | rfl | (simp [errW_none, errW_some] <;> rfl) | (simp [*, errW_none, errW_some] <;> rfl), by repeat (first | (with_reducible first | exact HB.out | apply ba | apply bd | apply be | refine below_set ?_ GE137.out) | exact HB.out)⟩
         ·rw [if_neg c12] at H
          have c12b0 : decide (24 < (wrap64 (x6_2 + t139))) = false := decide_eq_false c12
          clear c12
          have H' := Aside0.mk H
          clear H
          obtain ⟨hcz15_0, hcz15_1, hcz15_2, hcz15_3, hcz15_4, hfz15_0, hfz15_1, hfz15_2, hfz15_3, hfz15_4⟩ := b5 BK137.out
          have p138 : 0 ≤ (x8_2 : Int) := of_decide_eq_true (by first | (with_reducible assumption) | assumption)
          have q138 : x8_2 < (l0_4.length : Int) := of_decide_eq_true (by first | (with_reducible assumption) | assumption)
          obtain ⟨ad138, A138_4, c138_4, e138, hx138_0, hx138_1, hx138_2, hx138_3, hx138_4, hl138_4, hi138_4⟩ := at_T28 HR0_4.out x8_2 p138 q138
          cases e138
          replace hx138_0 := (HB.out.cell (World.block_lt_of_cell? w _ hx138_0)).trans hx138_0
          replace hx138_1 := (HB.out.cell (World.block_lt_of_cell? w _ hx138_1)).trans hx138_1
          replace hx138_2 := (HB.out.cell (World.block_lt_of_cell? w _ hx138_2)).trans hx138_2
          replace hx138_3 := (HB.out.cell (World.block_lt_of_cell? w _ hx138_3)).trans hx138_3
          replace hx138_4 := (HB.out.cell (World.block_lt_of_cell? w _ hx138_4)).trans hx138_4
          have HR138_4 := Aside0.mk hi138_4
          have HC138_4 := Aside0.mk hl138_4
          clear hi138_4 hl138_4
          replace p138 := eq_true p138
          replace q138 := eq_true q138
          go_wp2_with (first | ((with_reducible refine gate_callee (f := 57) rfl ?_); refine goesL_ (some 34) rfl rfl Try.func57 (by kernel_rfl) rfl #[.agg #[.int .i64 ((rd_T28 l0_4 x8_2).f0), .string ((rd_T28 l0_4 x8_2).f1.f0), .int .i64 ((rd_T28 l0_4 x8_2).f1.f1.f0), .int .i64 ((rd_T28 l0_4 x8_2).f1.f1.f1), .slice A138_4 ((rd_T28 l0_4 x8_2).f2).length c138_4], .int .i64 (wrap64 (a1 + 1))] rfl mp2 ?_; (with_reducible refine (ih k2 (by have := HJ2.out; have := HK2.out; omega) ((rd_T28 l0_4 x8_2).f0) ((rd_T28 l0_4 x8_2).f1.f0) ((rd_T28 l0_4 x8_2).f1.f1.f0) ((rd_T28 l0_4 x8_2).f1.f1.f1) _ _ ((rd_T28 l0_4 x8_2).f2) (wrap64 (a1 + 1)) t139 t140 _ ?side1 ?side2 A10.out).mono ?_); (case side1 => exact zC (Kd.C_below HR138_4.out HB.out)); (case side2 => exact HC138_4.out); rintro e w16 ⟨rfl, hb⟩; refine ⟨_, rfl, ?_⟩; have n0_ := am (blk_below (zB BK137.out) hb); have n1_ := am (below_step (zL HB.out) hb); clear BK137 HB; have BK137 := n0_; have HB := n1_; clear n0_ n1_; (try clear hb); (try clear hb2); (try clear hk); (try clear hi)))
          go_roundg k2
          case measure => have := HJ2.out; have := HK2.out; omega
          case rel => exact ⟨(wrap64 (x6_2 + t139)), (t140), (wrap64 (x8_2 + 1)), (by first | rfl | (simp; done) | (simp [*]; done)), (by first | rfl | (simp; done) | (simp [*]; done)), (by first | rfl | (simp; done) | (simp [*]; done)), H', ⟨by have := HJ2.out; have := HK2.out; omega⟩, ⟨by exact zB <| BK137.out⟩, ⟨by repeat (first | (with_reducible first | exact HB.out | apply ba | apply bd | apply be | refine below_set ?_ GE137.out) | exact HB.out)⟩⟩
        ·rw [if_neg c11] at H
         have c11b0 : decide (x7_2 < t140) = false := decide_eq_false c11
         clear c11
         by_cases c17 : (wrap64 (x6_2 + t139)) > 24
         ·rw [if_pos c17] at H
          have c17b0 : decide (24 < (wrap64 (x6_2 + t139))) = true := decide_eq_true c17
          clear c17
          simp only [Option.some.injEq, Prod.mk.injEq] at H
          obtain ⟨rfl, rfl⟩ := H
          obtain ⟨hcz18_0, hcz18_1, hcz18_2, hcz18_3, hcz18_4, hfz18_0, hfz18_1, hfz18_2, hfz18_3, hfz18_4⟩ := b5 BK137.out
          have p138 : 0 ≤ (x8_2 : Int) := of_decide_eq_true (by first | (with_reducible assumption) | assumption)
          have q138 : x8_2 < (l0_4.length : Int) := of_decide_eq_true (by first | (with_reducible assumption) | assumption)
          obtain ⟨ad138, A138_4, c138_4, e138, hx138_0, hx138_1, hx138_2, hx138_3, hx138_4, hl138_4, hi138_4⟩ := at_T28 HR0_4.out x8_2 p138 q138
          cases e138
          replace hx138_0 := (HB.out.cell (World.block_lt_of_cell? w _ hx138_0)).trans hx138_0
          replace hx138_1 := (HB.out.cell (World.block_lt_of_cell? w _ hx138_1)).trans hx138_1
          replace hx138_2 := (HB.out.cell (World.block_lt_of_cell? w _ hx138_2)).trans hx138_2
          replace hx138_3 := (HB.out.cell (World.block_lt_of_cell? w _ hx138_3)).trans hx138_3
          replace hx138_4 := (HB.out.cell (World.block_lt_of_cell? w _ hx138_4)).trans hx138_4
          have HR138_4 := Aside0.mk hi138_4
          have HC138_4 := Aside0.mk hl138_4
          clear hi138_4 hl138_4
          replace p138 := eq_true p138
          replace q138 := eq_true q138
          go_wp2_with (first | ((with_reducible refine gate_callee (f := 57) rfl ?_); refine goesL_ (some 34) rfl rfl Try.func57 (by kernel_rfl) rfl #[.agg #[.int .i64 ((rd_T28 l0_4 x8_2).f0), .string ((rd_T28 l0_4 x8_2).f1.f0), .int .i64 ((rd_T28 l0_4 x8_2).f1.f1.f0), .int .i64 ((rd_T28 l0_4 x8_2).f1.f1.f1), .slice A138_4 ((rd_T28 l0_4 x8_2).f2).length c138_4], .int .i64 (wrap64 (a1 + 1))] rfl mp2 ?_; (with_reducible refine (ih k2 (by have := HJ2.out; have := HK2.out; omega) ((rd_T28 l0_4 x8_2).f0) ((rd_T28 l0_4 x8_2).f1.f0) ((rd_T28 l0_4 x8_2).f1.f1.f0) ((rd_T28 l0_4 x8_2).f1.f1.f1) _ _ ((rd_T28 l0_4 x8_2).f2) (wrap64 (a1 + 1)) t139 t140 _ ?side1 ?side2 A10.out).mono ?_); (case side1 => exact zC (Kd.C_below HR138_4.out HB.out)); (case side2 => exact HC138_4.out); rintro e w19 ⟨rfl, hb⟩; refine ⟨_, rfl, ?_⟩; have n0_ := am (blk_below (zB BK137.out) hb); have n1_ := am (below_step (zL HB.out) hb); clear BK137 HB; have BK137 := n0_; have HB := n1_; clear n0_ n1_; (try clear hb); (try clear hb2); (try clear hk); (try clear hi)))
          go_ret2
          exact ⟨by first | rfl | (simp [errW_none, errW_some] <;> rfl) | (simp [*, errW_none, errW_some] <;> rfl), by repeat (first | (with_reducible first | exact HB.out | apply ba | apply bd | apply be | refine below_set ?_ GE137.out) | exact HB.out)⟩
         ·rw [if_neg c17] at H
          have c17b0 : decide (24 < (wrap64 (x6_2 + t139))) = false := decide_eq_false c17
          clear c17
          have H' := Aside0.mk H
          clear H
          obtain ⟨hcz20_0, hcz20_1, hcz20_2, hcz20_3, hcz20_4, hfz20_0, hfz20_1, hfz20_2, hfz20_3, hfz20_4⟩ := b5 BK137.out
          have p138 : 0 ≤ (x8_2 : Int) := of_decide_eq_true (by first | (with_reducible assumption) | assumption)
          have q138 : x8_2 < (l0_4.length : Int) := of_decide_eq_true (by first | (with_reducible assumption) | assumption)
          obtain ⟨ad138, A138_4, c138_4, e138, hx138_0, hx138_1, hx138_2, hx138_3, hx138_4, hl138_4, hi138_4⟩ := at_T28 HR0_4.out x8_2 p138 q138
          cases e138
          replace hx138_0 := (HB.out.cell (World.block_lt_of_cell? w _ hx138_0)).trans hx138_0
          replace hx138_1 := (HB.out.cell (World.block_lt_of_cell? w _ hx138_1)).trans hx138_1
          replace hx138_2 := (HB.out.cell (World.block_lt_of_cell? w _ hx138_2)).trans hx138_2
          replace hx138_3 := (HB.out.cell (World.block_lt_of_cell? w _ hx138_3)).trans hx138_3
          replace hx138_4 := (HB.out.cell (World.block_lt_of_cell? w _ hx138_4)).trans hx138_4
          have HR138_4 := Aside0.mk hi138_4
          have HC138_4 := Aside0.mk hl138_4
          clear hi138_4 hl138_4
          replace p138 := eq_true p138
          replace q138 := eq_true q138
          go_wp2_with (first | ((with_reducible refine gate_callee (f := 57) rfl ?_); refine goesL_ (some 34) rfl rfl Try.func57 (by kernel_rfl) rfl #[.agg #[.int .i64 ((rd_T28 l0_4 x8_2).f0), .string ((rd_T28 l0_4 x8_2).f1.f0), .int .i64 ((rd_T28 l0_4 x8_2).f1.f1.f0), .int .i64 ((rd_T28 l0_4 x8_2).f1.f1.f1), .slice A138_4 ((rd_T28 l0_4 x8_2).f2).length c138_4], .int .i64 (wrap64 (a1 + 1))] rfl mp2 ?_; (with_reducible refine (ih k2 (by have := HJ2.out; have := HK2.out; omega) ((rd_T28 l0_4 x8_2).f0) ((rd_T28 l0_4 x8_2).f1.f0) ((rd_T28 l0_4 x8_2).f1.f1.f0) ((rd_T28 l0_4 x8_2).f1.f1.f1) _ _ ((rd_T28 l0_4 x8_2).f2) (wrap64 (a1 + 1)) t139 t140 _ ?side1 ?side2 A10.out).mono ?_); (case side1 => exact zC (Kd.C_below HR138_4.out HB.out)); (case side2 => exact HC138_4.out); rintro e w21 ⟨rfl, hb⟩; refine ⟨_, rfl, ?_⟩; have n0_ := am (blk_below (zB BK137.out) hb); have n1_ := am (below_step (zL HB.out) hb); clear BK137 HB; have BK137 := n0_; have HB := n1_; clear n0_ n1_; (try clear hb); (try clear hb2); (try clear hk); (try clear hi)))
          go_roundg k2
          case measure => have := HJ2.out; have := HK2.out; omega
          case rel => exact ⟨(wrap64 (x6_2 + t139)), (x7_2), (wrap64 (x8_2 + 1)), (by first | rfl | (simp; done) | (simp [*]; done)), (by first | rfl | (simp; done) | (simp [*]; done)), (by first | rfl | (simp; done) | (simp [*]; done)), H', ⟨by have := HJ2.out; have := HK2.out; omega⟩, ⟨by exact zB <| BK137.out⟩, ⟨by repeat (first | (with_reducible first | exact HB.out | apply ba | apply bd | apply be | refine below_set ?_ GE137.out) | exact HB.out)⟩⟩
       ·rw [if_neg c9] at H
        exact absurd H (by simp)
      ·rw [if_neg c8] at H
       have c8b0 : decide (x8_2 < (l0_4.length : Int)) = false := decide_eq_false c8
       clear c8
       simp only [Option.some.injEq, Prod.mk.injEq] at H
       obtain ⟨rfl, rfl⟩ := H
       obtain ⟨hcz22_0, hcz22_1, hcz22_2, hcz22_3, hcz22_4, hfz22_0, hfz22_1, hfz22_2, hfz22_3, hfz22_4⟩ := b5 BK137.out
       go_wp2
       go_ret2
       exact ⟨by first | rfl | (simp [errW_none, errW_some] <;> rfl) | (simp [*, errW_none, errW_some] <;> rfl), by repeat (first | (with_reducible first | exact HB.out | apply ba | apply bd | apply be | refine below_set ?_ GE137.out) | exact HB.out)⟩

/-! ### clusterlocksref07_Nodes: function 42 -/
def clusterlocksref07_Nodes.f (k : Nat) (a0_0 : Int) (a0_1 : ByteArray) (a0_2 : Int) (a0_3 : Int) (l0_4 : List (S28)) : Option (Int) := (clusterlocksref07_Size.f k a0_0 a0_1 a0_2 a0_3 l0_4 1).bind fun bt142 => (if bt142.1 > 24 then (some 0) else (some bt142.1))
theorem clusterlocksref07_Nodes.mono : ∀ a0 a1 a2 a3 a4 k, LeO (clusterlocksref07_Nodes.f k a0 a1 a2 a3 a4) (clusterlocksref07_Nodes.f (k + 1) a0 a1 a2 a3 a4) := by
 intro a0 a1 a2 a3 a4 k
 unfold clusterlocksref07_Nodes.f
 repeat' first
   | (with_reducible exact clusterlocksref07_Size.mono _ _ _ _ _ _ _)
   | (with_reducible exact LeO.refl _)
   | (with_reducible exact LeO.none _)
   | (with_reducible refine LeO.ite ?_ ?_)
   | (with_reducible refine LeO.bind ?_ (fun _ => ?_))
   | exact clusterlocksref07_Size.mono _ _ _ _ _ _ _
   | exact LeO.none _
   | refine LeO.ite ?_ ?_
   | refine LeO.bind ?_ (fun _ => ?_)
set_option maxHeartbeats 8000000 in
set_option maxRecDepth 100000 in
theorem clusterlocksref07_Nodes.calls (k : Nat) (a0_0 : Int) (a0_1 : ByteArray) (a0_2 : Int) (a0_3 : Int) (A0_4 : Option Addr) (c0_4 : Nat) (l0_4 : List (S28)) (r : Int) (w : World) (hr0_4 : Kd.C k28 w A0_4 l0_4.length l0_4) (hc0_4 : l0_4.length ≤ c0_4) (h : clusterlocksref07_Nodes.f k a0_0 a0_1 a0_2 a0_3 l0_4 = some r) :
  Calls Try.prog 42 #[.agg #[.int .i64 a0_0, .string a0_1, .int .i64 a0_2, .int .i64 a0_3, .slice A0_4 l0_4.length c0_4]] w fun e w' => e = .returned (.int .i64 r) ∧ Below w.heap.size w w' := by
 have hu28 := Try.underlying28
 have HR0_4 := Aside0.mk hr0_4
 have HC0_4 := Aside0.mk hc0_4
 clear hr0_4 hc0_4
 have HB := am (Below.refl w.heap.size w)
 have H : ((clusterlocksref07_Size.f k a0_0 a0_1 a0_2 a0_3 l0_4 1).bind fun bt142 => (if bt142.1 > 24 then (some 0) else (some bt142.1))) = some r := h
 clear h
 replace H := Option.bind_eq_some_iff.mp H
 obtain ⟨⟨t142, t143⟩, A20, H⟩ := H
 replace H : (if t142 > 24 then (some 0) else (some t142)) = some r := H
 have A2 := Aside0.mk A20
 clear A20
 by_cases c3 : t142 > 24
 ·rw [if_pos c3] at H
  have c3b0 : decide (24 < t142) = true := decide_eq_true c3
  clear c3
  obtain rfl := Option.some.inj H
  go_enter Try.func42, Try.ntmps42
  go_wp2_with (first | ((with_reducible refine gate_dst (N := 1) rfl ?_); refine box_event ?hg (N := 1) ?hd (cs := #[.int .i64 a0_0, .string a0_1, .int .i64 a0_2, .int .i64 a0_3, .slice A0_4 l0_4.length c0_4]) (t := 28) ?hr ?_; (case hd => rfl); (case hg => rfl); (case hr => first | (go_simp; done) | (go_simp; rfl)); intro gb141 hg w4 hbox hb; have n0_ := am (below_step (zL HB.out) hb); have n1_ := am (hbox); have n2_ := am (zS hg HB.out); have n3_ := am (zS hg HB.out); clear HB; have HB := n0_; have BK141 := n1_; have GW141 := n2_; have GE141 := n3_; clear n0_ n1_ n2_ n3_; clear hb hbox hg; obtain ⟨hcz5_0, hcz5_1, hcz5_2, hcz5_3, hcz5_4, hfz5_0, hfz5_1, hfz5_2, hfz5_3, hfz5_4⟩ := b5 BK141.out) | ((with_reducible refine gate_callee (f := 57) rfl ?_); refine goesL_ (some 7) rfl rfl Try.func57 (by kernel_rfl) rfl #[.agg #[.int .i64 a0_0, .string a0_1, .int .i64 a0_2, .int .i64 a0_3, .slice A0_4 l0_4.length c0_4], .int .i64 1] rfl mp2 ?_; (with_reducible refine (clusterlocksref07_Size.calls k a0_0 a0_1 a0_2 a0_3 _ _ l0_4 1 t142 t143 _ ?side1 ?side2 A2.out).mono ?_); (case side1 => exact zC (Kd.C_below HR0_4.out HB.out)); (case side2 => exact HC0_4.out); rintro e w6 ⟨rfl, hb⟩; refine ⟨_, rfl, ?_⟩; have n0_ := am (blk_below (zB BK141.out) hb); have n1_ := am (below_step (zL HB.out) hb); clear BK141 HB; have BK141 := n0_; have HB := n1_; clear n0_ n1_; (try clear hb); (try clear hb2); (try clear hk); (try clear hi)))
  go_ret
  exact ⟨by first | rfl | (simp [errW_none, errW_some] <;> rfl) | (simp [*, errW_none, errW_some] <;> rfl), by repeat (first | (with_reducible first | exact HB.out | apply ba | apply bd | apply be | refine below_set ?_ GE141.out) | exact HB.out)⟩
 ·rw [if_neg c3] at H
  have c3b0 : decide (24 < t142) = false := decide_eq_false c3
  clear c3
  obtain rfl := Option.some.inj H
  go_enter Try.func42, Try.ntmps42
  go_wp2_with (first | ((with_reducible refine gate_dst (N := 1) rfl ?_); refine box_event ?hg (N := 1) ?hd (cs := #[.int .i64 a0_0, .string a0_1, .int .i64 a0_2, .int .i64 a0_3, .slice A0_4 l0_4.length c0_4]) (t := 28) ?hr ?_; (case hd => rfl); (case hg => rfl); (case hr => first | (go_simp; done) | (go_simp; rfl)); intro gb141 hg w7 hbox hb; have n0_ := am (below_step (zL HB.out) hb); have n1_ := am (hbox); have n2_ := am (zS hg HB.out); have n3_ := am (zS hg HB.out); clear HB; have HB := n0_; have BK141 := n1_; have GW141 := n2_; have GE141 := n3_; clear n0_ n1_ n2_ n3_; clear hb hbox hg; obtain ⟨hcz8_0, hcz8_1, hcz8_2, hcz8_3, hcz8_4, hfz8_0, hfz8_1, hfz8_2, hfz8_3, hfz8_4⟩ := b5 BK141.out) | ((with_reducible refine gate_callee (f := 57) rfl ?_); refine goesL_ (some 7) rfl rfl Try.func57 (by kernel_rfl) rfl #[.agg #[.int .i64 a0_0, .string a0_1, .int .i64 a0_2, .int .i64 a0_3, .slice A0_4 l0_4.length c0_4], .int .i64 1] rfl mp2 ?_; (with_reducible refine (clusterlocksref07_Size.calls k a0_0 a0_1 a0_2 a0_3 _ _ l0_4 1 t142 t143 _ ?side1 ?side2 A2.out).mono ?_); (case side1 => exact zC (Kd.C_below HR0_4.out HB.out)); (case side2 => exact HC0_4.out); rintro e w9 ⟨rfl, hb⟩; refine ⟨_, rfl, ?_⟩; have n0_ := am (blk_below (zB BK141.out) hb); have n1_ := am (below_step (zL HB.out) hb); clear BK141 HB; have BK141 := n0_; have HB := n1_; clear n0_ n1_; (try clear hb); (try clear hb2); (try clear hk); (try clear hi)))
  go_ret
  exact ⟨by first | rfl | (simp [errW_none, errW_some] <;> rfl) | (simp [*, errW_none, errW_some] <;> rfl), by repeat (first | (with_reducible first | exact HB.out | apply ba | apply bd | apply be | refine below_set ?_ GE141.out) | exact HB.out)⟩

/-! ### clusterlocksref05_Letter: function 67 -/
def clusterlocksref05_Letter.f (a0 : Int) : Option (Bool) := if a0 ≥ 97 then (some (decide (a0 ≤ 122))) else (some false)
set_option maxHeartbeats 8000000 in
set_option maxRecDepth 100000 in
theorem clusterlocksref05_Letter.calls (a0 : Int) (r : Bool) (w : World) (h : clusterlocksref05_Letter.f a0 = some r) :
  Calls Try.prog 67 #[.int .u8 a0] w fun e w' => e = .returned (.bool r) ∧ Drawn0 w w' := by
 have H : (if a0 ≥ 97 then (some (decide (a0 ≤ 122))) else (some false)) = some r := h
 clear h
 by_cases c2 : a0 ≥ 97
 ·rw [if_pos c2] at H
  have c2b0 : decide (97 ≤ a0) = true := decide_eq_true c2
  clear c2
  obtain rfl := Option.some.inj H
  go_enter Try.func67, Try.ntmps67
  go_wp2
  go_ret
  exact ⟨by first | rfl | (simp; done) | (simp [*]; done), by repeat (first | exact Drawn0.refl _ | apply Drawn0.step)⟩
 ·rw [if_neg c2] at H
  have c2b0 : decide (97 ≤ a0) = false := decide_eq_false c2
  clear c2
  obtain rfl := Option.some.inj H
  go_enter Try.func67, Try.ntmps67
  go_wp2
  go_ret
  exact ⟨by first | rfl | (simp; done) | (simp [*]; done), by repeat (first | exact Drawn0.refl _ | apply Drawn0.step)⟩

/-! ### clusterlocksref05_Reserved: function 68 -/
def clusterlocksref05_Reserved.f (a0 : ByteArray) : Option (Bool) := if a0.toList = ([97, 108, 108] : List UInt8) then (some true) else (if a0.toList = ([97, 110, 121] : List UInt8) then (some true) else (if a0.toList = ([111, 102] : List UInt8) then (some true) else (if a0.toList = ([112, 114, 105, 111] : List UInt8) then (some true) else (some (a0.toList == ([108, 105, 109, 105, 116] : List UInt8))))))
set_option maxHeartbeats 8000000 in
set_option maxRecDepth 100000 in
theorem clusterlocksref05_Reserved.calls (a0 : ByteArray) (r : Bool) (w : World) (h : clusterlocksref05_Reserved.f a0 = some r) :
  Calls Try.prog 68 #[.string a0] w fun e w' => e = .returned (.bool r) ∧ Drawn0 w w' := by
 have H : (if a0.toList = ([97, 108, 108] : List UInt8) then (some true) else (if a0.toList = ([97, 110, 121] : List UInt8) then (some true) else (if a0.toList = ([111, 102] : List UInt8) then (some true) else (if a0.toList = ([112, 114, 105, 111] : List UInt8) then (some true) else (some (a0.toList == ([108, 105, 109, 105, 116] : List UInt8))))))) = some r := h
 clear h
 by_cases c2 : a0.toList = ([97, 108, 108] : List UInt8)
 ·rw [if_pos c2] at H
  have c2b0 : (a0.toList == ([97, 108, 108] : List UInt8)) = true := beq_iff_eq.mpr c2
  have c2b1 : (a0.toList != ([97, 108, 108] : List UInt8)) = false := bne_eq_false_iff_eq.mpr c2
  clear c2
  obtain rfl := Option.some.inj H
  go_enter Try.func68, Try.ntmps68
  go_wp2
  go_ret
  exact ⟨by first | rfl | (simp; done) | (simp [*]; done), by repeat (first | exact Drawn0.refl _ | apply Drawn0.step)⟩
 ·rw [if_neg c2] at H
  have c2b0 : (a0.toList == ([97, 108, 108] : List UInt8)) = false := beq_eq_false_iff_ne.mpr c2
  have c2b1 : (a0.toList != ([97, 108, 108] : List UInt8)) = true := bne_iff_ne.mpr c2
  by_cases c3 : a0.toList = ([97, 110, 121] : List UInt8)
  ·rw [if_pos c3] at H
   have c3b0 : (a0.toList == ([97, 110, 121] : List UInt8)) = true := beq_iff_eq.mpr c3
   have c3b1 : (a0.toList != ([97, 110, 121] : List UInt8)) = false := bne_eq_false_iff_eq.mpr c3
   clear c3
   obtain rfl := Option.some.inj H
   go_enter Try.func68, Try.ntmps68
   go_wp2
   go_ret
   exact ⟨by first | rfl | (simp; done) | (simp [*]; done), by repeat (first | exact Drawn0.refl _ | apply Drawn0.step)⟩
  ·rw [if_neg c3] at H
   have c3b0 : (a0.toList == ([97, 110, 121] : List UInt8)) = false := beq_eq_false_iff_ne.mpr c3
   have c3b1 : (a0.toList != ([97, 110, 121] : List UInt8)) = true := bne_iff_ne.mpr c3
   by_cases c4 : a0.toList = ([111, 102] : List UInt8)
   ·rw [if_pos c4] at H
    have c4b0 : (a0.toList == ([111, 102] : List UInt8)) = true := beq_iff_eq.mpr c4
    have c4b1 : (a0.toList != ([111, 102] : List UInt8)) = false := bne_eq_false_iff_eq.mpr c4
    clear c4
    obtain rfl := Option.some.inj H
    go_enter Try.func68, Try.ntmps68
    go_wp2
    go_ret
    exact ⟨by first | rfl | (simp; done) | (simp [*]; done), by repeat (first | exact Drawn0.refl _ | apply Drawn0.step)⟩
   ·rw [if_neg c4] at H
    have c4b0 : (a0.toList == ([111, 102] : List UInt8)) = false := beq_eq_false_iff_ne.mpr c4
    have c4b1 : (a0.toList != ([111, 102] : List UInt8)) = true := bne_iff_ne.mpr c4
    by_cases c5 : a0.toList = ([112, 114, 105, 111] : List UInt8)
    ·rw [if_pos c5] at H
     have c5b0 : (a0.toList == ([112, 114, 105, 111] : List UInt8)) = true := beq_iff_eq.mpr c5
     have c5b1 : (a0.toList != ([112, 114, 105, 111] : List UInt8)) = false := bne_eq_false_iff_eq.mpr c5
     clear c5
     obtain rfl := Option.some.inj H
     go_enter Try.func68, Try.ntmps68
     go_wp2
     go_ret
     exact ⟨by first | rfl | (simp; done) | (simp [*]; done), by repeat (first | exact Drawn0.refl _ | apply Drawn0.step)⟩
    ·rw [if_neg c5] at H
     have c5b0 : (a0.toList == ([112, 114, 105, 111] : List UInt8)) = false := beq_eq_false_iff_ne.mpr c5
     have c5b1 : (a0.toList != ([112, 114, 105, 111] : List UInt8)) = true := bne_iff_ne.mpr c5
     obtain rfl := Option.some.inj H
     go_enter Try.func68, Try.ntmps68
     go_wp2
     go_ret
     exact ⟨by first | rfl | (simp; done) | (simp [*]; done), by repeat (first | exact Drawn0.refl _ | apply Drawn0.step)⟩

/-! ### clusterlocksref05_Part: function 69 -/
def clusterlocksref05_Part.f (a0 : Int) : Option (Bool) := (clusterlocksref05_Letter.f a0).bind fun t144 => (if t144 = true then (some true) else (if a0 ≥ 48 then (if a0 ≤ 57 then (some true) else (if a0 = 95 then (some true) else (some (a0 == 45)))) else (if a0 = 95 then (some true) else (some (a0 == 45)))))
set_option maxHeartbeats 8000000 in
set_option maxRecDepth 100000 in
theorem clusterlocksref05_Part.calls (a0 : Int) (r : Bool) (w : World) (h : clusterlocksref05_Part.f a0 = some r) :
  Calls Try.prog 69 #[.int .u8 a0] w fun e w' => e = .returned (.bool r) ∧ Drawn0 w w' := by
 have H : ((clusterlocksref05_Letter.f a0).bind fun t144 => (if t144 = true then (some true) else (if a0 ≥ 48 then (if a0 ≤ 57 then (some true) else (if a0 = 95 then (some true) else (some (a0 == 45)))) else (if a0 = 95 then (some true) else (some (a0 == 45)))))) = some r := h
 clear h
 replace H := Option.bind_eq_some_iff.mp H
 obtain ⟨t144, A20, H⟩ := H
 replace H : (if t144 = true then (some true) else (if a0 ≥ 48 then (if a0 ≤ 57 then (some true) else (if a0 = 95 then (some true) else (some (a0 == 45)))) else (if a0 = 95 then (some true) else (some (a0 == 45))))) = some r := H
 have A2 := Aside0.mk A20
 clear A20
 by_cases c3 : t144 = true
 ·subst c3
  have H1 : (some true) = some r := by rw [if_pos rfl] at H; exact H
  clear H
  have H := H1
  clear H1
  obtain rfl := Option.some.inj H
  go_enter Try.func69, Try.ntmps69
  go_wp2_with (first | ((with_reducible refine gate_callee (f := 67) rfl ?_); refine goesL_ (some 4) rfl rfl Try.func67 (by kernel_rfl) rfl #[.int .u8 a0] rfl mp1 ?_; (with_reducible refine (clusterlocksref05_Letter.calls a0 true _ A2.out).mono ?_); rintro e w' ⟨rfl, ⟨nd, rfl⟩⟩; refine ⟨_, rfl, ?_⟩))
  go_ret
  exact ⟨by first | rfl | (simp; done) | (simp [*]; done), by repeat (first | exact Drawn0.refl _ | apply Drawn0.step)⟩
 ·replace c3 := Bool.eq_false_iff.mpr c3
  subst c3
  have H1 : (if a0 ≥ 48 then (if a0 ≤ 57 then (some true) else (if a0 = 95 then (some true) else (some (a0 == 45)))) else (if a0 = 95 then (some true) else (some (a0 == 45)))) = some r := by rw [if_neg (show ¬ (false = true) by decide)] at H; exact H
  clear H
  have H := H1
  clear H1
  by_cases c4 : a0 ≥ 48
  ·rw [if_pos c4] at H
   have c4b0 : decide (48 ≤ a0) = true := decide_eq_true c4
   clear c4
   by_cases c5 : a0 ≤ 57
   ·rw [if_pos c5] at H
    have c5b0 : decide (a0 ≤ 57) = true := decide_eq_true c5
    clear c5
    obtain rfl := Option.some.inj H
    go_enter Try.func69, Try.ntmps69
    go_wp2_with (first | ((with_reducible refine gate_callee (f := 67) rfl ?_); refine goesL_ (some 4) rfl rfl Try.func67 (by kernel_rfl) rfl #[.int .u8 a0] rfl mp1 ?_; (with_reducible refine (clusterlocksref05_Letter.calls a0 false _ A2.out).mono ?_); rintro e w' ⟨rfl, ⟨nd, rfl⟩⟩; refine ⟨_, rfl, ?_⟩))
    go_ret
    exact ⟨by first | rfl | (simp; done) | (simp [*]; done), by repeat (first | exact Drawn0.refl _ | apply Drawn0.step)⟩
   ·rw [if_neg c5] at H
    have c5b0 : decide (a0 ≤ 57) = false := decide_eq_false c5
    clear c5
    by_cases c6 : a0 = 95
    ·rw [if_pos c6] at H
     have c6b0 : (a0 == 95) = true := beq_iff_eq.mpr c6
     have c6b1 : (a0 != 95) = false := bne_eq_false_iff_eq.mpr c6
     clear c6
     obtain rfl := Option.some.inj H
     go_enter Try.func69, Try.ntmps69
     go_wp2_with (first | ((with_reducible refine gate_callee (f := 67) rfl ?_); refine goesL_ (some 4) rfl rfl Try.func67 (by kernel_rfl) rfl #[.int .u8 a0] rfl mp1 ?_; (with_reducible refine (clusterlocksref05_Letter.calls a0 false _ A2.out).mono ?_); rintro e w' ⟨rfl, ⟨nd, rfl⟩⟩; refine ⟨_, rfl, ?_⟩))
     go_ret
     exact ⟨by first | rfl | (simp; done) | (simp [*]; done), by repeat (first | exact Drawn0.refl _ | apply Drawn0.step)⟩
    ·rw [if_neg c6] at H
     have c6b0 : (a0 == 95) = false := beq_eq_false_iff_ne.mpr c6
     have c6b1 : (a0 != 95) = true := bne_iff_ne.mpr c6
     obtain rfl := Option.some.inj H
     go_enter Try.func69, Try.ntmps69
     go_wp2_with (first | ((with_reducible refine gate_callee (f := 67) rfl ?_); refine goesL_ (some 4) rfl rfl Try.func67 (by kernel_rfl) rfl #[.int .u8 a0] rfl mp1 ?_; (with_reducible refine (clusterlocksref05_Letter.calls a0 false _ A2.out).mono ?_); rintro e w' ⟨rfl, ⟨nd, rfl⟩⟩; refine ⟨_, rfl, ?_⟩))
     go_ret
     exact ⟨by first | rfl | (simp; done) | (simp [*]; done), by repeat (first | exact Drawn0.refl _ | apply Drawn0.step)⟩
  ·rw [if_neg c4] at H
   have c4b0 : decide (48 ≤ a0) = false := decide_eq_false c4
   clear c4
   by_cases c7 : a0 = 95
   ·rw [if_pos c7] at H
    have c7b0 : (a0 == 95) = true := beq_iff_eq.mpr c7
    have c7b1 : (a0 != 95) = false := bne_eq_false_iff_eq.mpr c7
    clear c7
    obtain rfl := Option.some.inj H
    go_enter Try.func69, Try.ntmps69
    go_wp2_with (first | ((with_reducible refine gate_callee (f := 67) rfl ?_); refine goesL_ (some 4) rfl rfl Try.func67 (by kernel_rfl) rfl #[.int .u8 a0] rfl mp1 ?_; (with_reducible refine (clusterlocksref05_Letter.calls a0 false _ A2.out).mono ?_); rintro e w' ⟨rfl, ⟨nd, rfl⟩⟩; refine ⟨_, rfl, ?_⟩))
    go_ret
    exact ⟨by first | rfl | (simp; done) | (simp [*]; done), by repeat (first | exact Drawn0.refl _ | apply Drawn0.step)⟩
   ·rw [if_neg c7] at H
    have c7b0 : (a0 == 95) = false := beq_eq_false_iff_ne.mpr c7
    have c7b1 : (a0 != 95) = true := bne_iff_ne.mpr c7
    obtain rfl := Option.some.inj H
    go_enter Try.func69, Try.ntmps69
    go_wp2_with (first | ((with_reducible refine gate_callee (f := 67) rfl ?_); refine goesL_ (some 4) rfl rfl Try.func67 (by kernel_rfl) rfl #[.int .u8 a0] rfl mp1 ?_; (with_reducible refine (clusterlocksref05_Letter.calls a0 false _ A2.out).mono ?_); rintro e w' ⟨rfl, ⟨nd, rfl⟩⟩; refine ⟨_, rfl, ?_⟩))
    go_ret
    exact ⟨by first | rfl | (simp; done) | (simp [*]; done), by repeat (first | exact Drawn0.refl _ | apply Drawn0.step)⟩

end Go.Proofs.Ytefbcebpokoinaa.Y

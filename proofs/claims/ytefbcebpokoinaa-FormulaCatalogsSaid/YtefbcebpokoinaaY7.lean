-- Laid by a program of this session's (xprint.py, which runs the kit's print.py with patches of its own). Lean checks it.
import Derived.Test.YtefbcebpokoinaaY0
import Derived.Test.YtefbcebpokoinaaY1
import Derived.Test.YtefbcebpokoinaaY6
namespace Go.Proofs.Ytefbcebpokoinaa.Y
open Go.RowKit Go.Proofs.YtefbcebpokoinaaW.PrintWords Go.Proofs.YtefbcebpokoinaaW.PrintLast Go.Proofs.YtefbcebpokoinaaW.PrintMore
attribute [local go_sem] max2_int min2_int max_two min_two max_three min_three max_four min_four   -- for this text's walks alone
set_option linter.unusedVariables false
set_option linter.unusedSimpArgs false

attribute [local go_sem high] eqA25
/-! ### clusterlocksref07_Add: function 43 -/
mutual
def clusterlocksref07_Add.j0 : Nat → List (S25) → Bool → Int → ByteArray → Int → Int → List (S28) → Option ((List (S25)) × Bool)
 | 0, _, _, _, _, _, _, _ => none
 | k + 1, x0, x30, x151000, x151001, x151002, x151003, x151004 => if x30 = true then (some (x0, false)) else (clusterlocksref07_Add.l0 k x0 0 x151000 x151001 x151002 x151003 x151004)
def clusterlocksref07_Add.l0 : Nat → List (S25) → Int → Int → ByteArray → Int → Int → List (S28) → Option ((List (S25)) × Bool)
 | 0, _, _, _, _, _, _, _ => none
 | k + 1, x0, x6, x151000, x151001, x151002, x151003, x151004 => if x6 < (x0.length : Int) then (if 0 ≤ x6 then (if ((((rd_T25 x0 x6).f0).toList) == x151001.toList && ((((rd_T25 x0 x6).f1.f0) == x151002 && (((rd_T25 x0 x6).f1.f1) == x151003)))) = true then (some (x0, true)) else (clusterlocksref07_Add.l0 k x0 (wrap64 (x6 + 1)) x151000 x151001 x151002 x151003 x151004)) else (none)) else (if x0.length < 4398046511104 then (some ((x0 ++ [(⟨x151001, (⟨x151002, x151003⟩ : S23)⟩ : S25)]), true)) else (none))
def clusterlocksref07_Add.j2 : Nat → List (S25) → Bool → Int → ByteArray → Int → Int → List (S28) → Option ((List (S25)) × Bool)
 | 0, _, _, _, _, _, _, _ => none
 | k + 1, x0, x67, x151000, x151001, x151002, x151003, x151004 => if x67 = true then (some (x0, false)) else (clusterlocksref07_Add.l1 k x0 0 x151000 x151001 x151002 x151003 x151004)
def clusterlocksref07_Add.l1 : Nat → List (S25) → Int → Int → ByteArray → Int → Int → List (S28) → Option ((List (S25)) × Bool)
 | 0, _, _, _, _, _, _, _ => none
 | k + 1, x0, x7, x151000, x151001, x151002, x151003, x151004 => if x7 < (x151004.length : Int) then (if 0 ≤ x7 then ((clusterlocksref07_Add.f k x0 ((rd_T28 x151004 x7).f0) ((rd_T28 x151004 x7).f1.f0) ((rd_T28 x151004 x7).f1.f1.f0) ((rd_T28 x151004 x7).f1.f1.f1) ((rd_T28 x151004 x7).f2)).bind fun bt158 => (if bt158.2 = true then (clusterlocksref07_Add.l1 k bt158.1 (wrap64 (x7 + 1)) x151000 x151001 x151002 x151003 x151004) else (some ([], false)))) else (none)) else (some (x0, true))
def clusterlocksref07_Add.f : Nat → List (S25) → Int → ByteArray → Int → Int → List (S28) → Option ((List (S25)) × Bool)
 | 0, _, _, _, _, _, _ => none
 | k + 1, l0, a1_0, a1_1, a1_2, a1_3, l1_4 => if (l1_4.length : Int) = 0 then (if a1_0 = 0 then ((clusterlocksref05_ValidName.f k a1_1).bind fun t151 => (if t151 = true then ((clusterlocksref07_Usable.f a1_2 a1_3).bind fun t152 => (clusterlocksref07_Add.j0 k l0 (!t152) a1_0 a1_1 a1_2 a1_3 l1_4)) else (clusterlocksref07_Add.j0 k l0 true a1_0 a1_1 a1_2 a1_3 l1_4))) else (clusterlocksref07_Add.j0 k l0 true a1_0 a1_1 a1_2 a1_3 l1_4)) else (if a1_0 < 1 then (clusterlocksref07_Add.j2 k l0 true a1_0 a1_1 a1_2 a1_3 l1_4) else (if a1_0 > (l1_4.length : Int) then (clusterlocksref07_Add.j2 k l0 true a1_0 a1_1 a1_2 a1_3 l1_4) else (clusterlocksref07_Add.j2 k l0 (!(a1_1.toList == ([] : List UInt8)) || ((!(a1_2 == 0) || (!(a1_3 == 0))))) a1_0 a1_1 a1_2 a1_3 l1_4)))
end
theorem clusterlocksref07_Add.mono_l : ∀ k, (∀ y0 y1 y2 y3 y4 y5, LeO (clusterlocksref07_Add.f k y0 y1 y2 y3 y4 y5) (clusterlocksref07_Add.f (k + 1) y0 y1 y2 y3 y4 y5)) ∧ (∀ y0 y1 y2 y3 y4 y5 y6, LeO (clusterlocksref07_Add.j0 k y0 y1 y2 y3 y4 y5 y6) (clusterlocksref07_Add.j0 (k + 1) y0 y1 y2 y3 y4 y5 y6)) ∧ (∀ y0 y1 y2 y3 y4 y5 y6, LeO (clusterlocksref07_Add.l0 k y0 y1 y2 y3 y4 y5 y6) (clusterlocksref07_Add.l0 (k + 1) y0 y1 y2 y3 y4 y5 y6)) ∧ (∀ y0 y1 y2 y3 y4 y5 y6, LeO (clusterlocksref07_Add.j2 k y0 y1 y2 y3 y4 y5 y6) (clusterlocksref07_Add.j2 (k + 1) y0 y1 y2 y3 y4 y5 y6)) ∧ (∀ y0 y1 y2 y3 y4 y5 y6, LeO (clusterlocksref07_Add.l1 k y0 y1 y2 y3 y4 y5 y6) (clusterlocksref07_Add.l1 (k + 1) y0 y1 y2 y3 y4 y5 y6))
 | 0 => ⟨fun _ _ _ _ _ _ r h => by simp [clusterlocksref07_Add.f] at h, fun _ _ _ _ _ _ _ r h => by simp [clusterlocksref07_Add.j0] at h, fun _ _ _ _ _ _ _ r h => by simp [clusterlocksref07_Add.l0] at h, fun _ _ _ _ _ _ _ r h => by simp [clusterlocksref07_Add.j2] at h, fun _ _ _ _ _ _ _ r h => by simp [clusterlocksref07_Add.l1] at h⟩
 | k + 1 => by
  obtain ⟨ih0, ih1, ih2, ih3, ih4⟩ := clusterlocksref07_Add.mono_l k
  refine ⟨?_, ?_, ?_, ?_, ?_⟩
  ·intro y0 y1 y2 y3 y4 y5
   unfold clusterlocksref07_Add.f
   repeat' first
   | (with_reducible exact ih0 _ _ _ _ _ _)
   | (with_reducible exact ih1 _ _ _ _ _ _ _)
   | (with_reducible exact ih2 _ _ _ _ _ _ _)
   | (with_reducible exact ih3 _ _ _ _ _ _ _)
   | (with_reducible exact ih4 _ _ _ _ _ _ _)
   | (with_reducible exact clusterlocksref05_ValidName.mono _ _)
   | (with_reducible exact LeO.refl _)
   | (with_reducible exact LeO.none _)
   | (with_reducible refine LeO.ite ?_ ?_)
   | (with_reducible refine LeO.bind ?_ (fun _ => ?_))
   | exact ih0 _ _ _ _ _ _
   | exact ih1 _ _ _ _ _ _ _
   | exact ih2 _ _ _ _ _ _ _
   | exact ih3 _ _ _ _ _ _ _
   | exact ih4 _ _ _ _ _ _ _
   | exact clusterlocksref05_ValidName.mono _ _
   | exact LeO.none _
   | refine LeO.ite ?_ ?_
   | refine LeO.bind ?_ (fun _ => ?_)
  ·intro y0 y1 y2 y3 y4 y5 y6
   unfold clusterlocksref07_Add.j0
   repeat' first
   | (with_reducible exact ih0 _ _ _ _ _ _)
   | (with_reducible exact ih1 _ _ _ _ _ _ _)
   | (with_reducible exact ih2 _ _ _ _ _ _ _)
   | (with_reducible exact ih3 _ _ _ _ _ _ _)
   | (with_reducible exact ih4 _ _ _ _ _ _ _)
   | (with_reducible exact clusterlocksref05_ValidName.mono _ _)
   | (with_reducible exact LeO.refl _)
   | (with_reducible exact LeO.none _)
   | (with_reducible refine LeO.ite ?_ ?_)
   | (with_reducible refine LeO.bind ?_ (fun _ => ?_))
   | exact ih0 _ _ _ _ _ _
   | exact ih1 _ _ _ _ _ _ _
   | exact ih2 _ _ _ _ _ _ _
   | exact ih3 _ _ _ _ _ _ _
   | exact ih4 _ _ _ _ _ _ _
   | exact clusterlocksref05_ValidName.mono _ _
   | exact LeO.none _
   | refine LeO.ite ?_ ?_
   | refine LeO.bind ?_ (fun _ => ?_)
  ·intro y0 y1 y2 y3 y4 y5 y6
   unfold clusterlocksref07_Add.l0
   repeat' first
   | (with_reducible exact ih0 _ _ _ _ _ _)
   | (with_reducible exact ih1 _ _ _ _ _ _ _)
   | (with_reducible exact ih2 _ _ _ _ _ _ _)
   | (with_reducible exact ih3 _ _ _ _ _ _ _)
   | (with_reducible exact ih4 _ _ _ _ _ _ _)
   | (with_reducible exact clusterlocksref05_ValidName.mono _ _)
   | (with_reducible exact LeO.refl _)
   | (with_reducible exact LeO.none _)
   | (with_reducible refine LeO.ite ?_ ?_)
   | (with_reducible refine LeO.bind ?_ (fun _ => ?_))
   | exact ih0 _ _ _ _ _ _
   | exact ih1 _ _ _ _ _ _ _
   | exact ih2 _ _ _ _ _ _ _
   | exact ih3 _ _ _ _ _ _ _
   | exact ih4 _ _ _ _ _ _ _
   | exact clusterlocksref05_ValidName.mono _ _
   | exact LeO.none _
   | refine LeO.ite ?_ ?_
   | refine LeO.bind ?_ (fun _ => ?_)
  ·intro y0 y1 y2 y3 y4 y5 y6
   unfold clusterlocksref07_Add.j2
   repeat' first
   | (with_reducible exact ih0 _ _ _ _ _ _)
   | (with_reducible exact ih1 _ _ _ _ _ _ _)
   | (with_reducible exact ih2 _ _ _ _ _ _ _)
   | (with_reducible exact ih3 _ _ _ _ _ _ _)
   | (with_reducible exact ih4 _ _ _ _ _ _ _)
   | (with_reducible exact clusterlocksref05_ValidName.mono _ _)
   | (with_reducible exact LeO.refl _)
   | (with_reducible exact LeO.none _)
   | (with_reducible refine LeO.ite ?_ ?_)
   | (with_reducible refine LeO.bind ?_ (fun _ => ?_))
   | exact ih0 _ _ _ _ _ _
   | exact ih1 _ _ _ _ _ _ _
   | exact ih2 _ _ _ _ _ _ _
   | exact ih3 _ _ _ _ _ _ _
   | exact ih4 _ _ _ _ _ _ _
   | exact clusterlocksref05_ValidName.mono _ _
   | exact LeO.none _
   | refine LeO.ite ?_ ?_
   | refine LeO.bind ?_ (fun _ => ?_)
  ·intro y0 y1 y2 y3 y4 y5 y6
   unfold clusterlocksref07_Add.l1
   repeat' first
   | (with_reducible exact ih0 _ _ _ _ _ _)
   | (with_reducible exact ih1 _ _ _ _ _ _ _)
   | (with_reducible exact ih2 _ _ _ _ _ _ _)
   | (with_reducible exact ih3 _ _ _ _ _ _ _)
   | (with_reducible exact ih4 _ _ _ _ _ _ _)
   | (with_reducible exact clusterlocksref05_ValidName.mono _ _)
   | (with_reducible exact LeO.refl _)
   | (with_reducible exact LeO.none _)
   | (with_reducible refine LeO.ite ?_ ?_)
   | (with_reducible refine LeO.bind ?_ (fun _ => ?_))
   | exact ih0 _ _ _ _ _ _
   | exact ih1 _ _ _ _ _ _ _
   | exact ih2 _ _ _ _ _ _ _
   | exact ih3 _ _ _ _ _ _ _
   | exact ih4 _ _ _ _ _ _ _
   | exact clusterlocksref05_ValidName.mono _ _
   | exact LeO.none _
   | refine LeO.ite ?_ ?_
   | refine LeO.bind ?_ (fun _ => ?_)
theorem clusterlocksref07_Add.mono : ∀ a0 a1 a2 a3 a4 a5 k, LeO (clusterlocksref07_Add.f k a0 a1 a2 a3 a4 a5) (clusterlocksref07_Add.f (k + 1) a0 a1 a2 a3 a4 a5) := by
 intro a0 a1 a2 a3 a4 a5 k
 obtain ⟨ih0, ih1, ih2, ih3, ih4⟩ := clusterlocksref07_Add.mono_l k
 exact ih0 a0 a1 a2 a3 a4 a5
set_option maxHeartbeats 8000000 in
set_option maxRecDepth 100000 in
theorem clusterlocksref07_Add.calls (k : Nat) : ∀ (P0_ : Nat → Prop) (u9000_ : Value) (l0 : List (S25)) (a1_0 : Int) (a1_1 : ByteArray) (a1_2 : Int) (a1_3 : Int) (A1_4 : Option Addr) (c1_4 : Nat) (l1_4 : List (S28)) (r1 : List (S25)) (r2 : Bool) (w0 w : World) (hB : Below w0.heap.size w0 w) (ho0 : Kd.R k25 25 w w0.heap.size P0_ u9000_ l0) (hr1_4 : ∀ W_, Kept w W_ (fun k_ => P0_ k_) → Kd.C k28 W_ A1_4 l1_4.length l1_4) (hc1_4 : l1_4.length ≤ c1_4) (h : clusterlocksref07_Add.f k l0 a1_0 a1_1 a1_2 a1_3 l1_4 = some (r1, r2)),
  Calls Try.prog 43 #[u9000_, .agg #[.int .i64 a1_0, .string a1_1, .int .i64 a1_2, .int .i64 a1_3, .slice A1_4 l1_4.length c1_4]] w fun e w' => ∃ v0_ : Value, e = .returned (.tuple #[v0_, .bool r2]) ∧ (r2 = true → Kd.R k25 25 w' w0.heap.size (fun k_ => (P0_ k_ ∨ w.heap.size ≤ k_)) v0_ r1) ∧ Below w0.heap.size w0 w' ∧ Kept w w' (fun k_ => P0_ k_) := by
 induction k using Nat.strongRecOn with
 | _ k ih =>
 intro P0_ u9000_ l0 a1_0 a1_1 a1_2 a1_3 A1_4 c1_4 l1_4 r1 r2 w0 w hB ho0 hr1_4 hc1_4 h
 cases k with
 | zero => exact absurd h (by simp [clusterlocksref07_Add.f])
 | succ k =>
 simp only [clusterlocksref07_Add.f] at h
 have hu28 := Try.underlying28
 have hu23 := Try.underlying23
 have hu25 := Try.underlying25
 have HO0 := am (show Kd.R k25 25 w w0.heap.size (fun k_ => (P0_ k_ ∨ w.heap.size ≤ k_)) u9000_ l0 from Kd.R_mono ho0 (fun k_ hk => (.inl hk)))
 have HR1_4 := Aside0.mk hr1_4
 have HC1_4 := Aside0.mk hc1_4
 clear hr1_4 hc1_4
 have HK := am (Kept.refl w (fun k_ => P0_ k_))
 have HW0 := Aside0.mk hB.size
 have HB := Aside0.mk hB
 clear hB
 have H : (if (l1_4.length : Int) = 0 then (if a1_0 = 0 then ((clusterlocksref05_ValidName.f k a1_1).bind fun t151 => (if t151 = true then ((clusterlocksref07_Usable.f a1_2 a1_3).bind fun t152 => (clusterlocksref07_Add.j0 k l0 (!t152) a1_0 a1_1 a1_2 a1_3 l1_4)) else (clusterlocksref07_Add.j0 k l0 true a1_0 a1_1 a1_2 a1_3 l1_4))) else (clusterlocksref07_Add.j0 k l0 true a1_0 a1_1 a1_2 a1_3 l1_4)) else (if a1_0 < 1 then (clusterlocksref07_Add.j2 k l0 true a1_0 a1_1 a1_2 a1_3 l1_4) else (if a1_0 > (l1_4.length : Int) then (clusterlocksref07_Add.j2 k l0 true a1_0 a1_1 a1_2 a1_3 l1_4) else (clusterlocksref07_Add.j2 k l0 (!(a1_1.toList == ([] : List UInt8)) || ((!(a1_2 == 0) || (!(a1_3 == 0))))) a1_0 a1_1 a1_2 a1_3 l1_4)))) = some (r1, r2) := h
 clear h
 by_cases c3 : (l1_4.length : Int) = 0
 ·rw [if_pos c3] at H
  have c3b0 : ((l1_4.length : Int) == 0) = true := beq_iff_eq.mpr c3
  have c3b1 : ((l1_4.length : Int) != 0) = false := bne_eq_false_iff_eq.mpr c3
  clear c3
  have HC4 := Aside0.mk H
  clear H
  go_enter Try.func43, Try.ntmps43
  go_upto_region 2 with (first | ((with_reducible refine gate_dst (N := 3) rfl ?_); (try (refine gate_guard (by rfl) ?_; dsimp only)); refine box_event ?hg (N := 3) ?hd (cs := #[.int .i64 a1_0, .string a1_1, .int .i64 a1_2, .int .i64 a1_3, .slice A1_4 l1_4.length c1_4]) (t := 28) ?hr ?_; (case hd => rfl); (case hg => rfl); (case hr => first | (go_simp; done) | (go_simp; rfl)); intro gb150 hg w5 hbox hb; have n0_ := am (Kd.R_below (zR HO0.out) hb); have n1_ := am (Kept.below (S := (fun k_ => P0_ k_)) (by repeat (first | (with_reducible first | exact HK.out | apply Kept.alloc | apply Kept.drewN | apply Kept.drew) | exact HK.out)) hb); have n2_ := am (below_step (zL HB.out) hb); have n3_ := am (hbox); have n4_ := am ((by rw [hg]; exact (by first | exact HK.out.1 | exact (show Kept w _ (fun k_ => P0_ k_) from by repeat (first | (with_reducible first | exact HK.out | apply Kept.alloc | apply Kept.drewN | apply Kept.drew) | exact HK.out)).1) : w.heap.size ≤ gb150)); have n5_ := am ((by rw [hg]; exact (below_size (zL HB.out)) : w0.heap.size ≤ gb150)); clear HO0 HK HB; have HO0 := n0_; have HK := n1_; have HB := n2_; have BK150 := n3_; have GW150 := n4_; have GE150 := n5_; clear n0_ n1_ n2_ n3_ n4_ n5_; clear hb hbox hg; obtain ⟨hcz6_0, hcz6_1, hcz6_2, hcz6_3, hcz6_4, hfz6_0, hfz6_1, hfz6_2, hfz6_3, hfz6_4⟩ := b5 BK150.out))
  repeat (go_quiet (first | ((with_reducible refine gate_dst (N := 3) rfl ?_); (try (refine gate_guard (by rfl) ?_; dsimp only)); refine box_event ?hg (N := 3) ?hd (cs := #[.int .i64 a1_0, .string a1_1, .int .i64 a1_2, .int .i64 a1_3, .slice A1_4 l1_4.length c1_4]) (t := 28) ?hr ?_; (case hd => rfl); (case hg => rfl); (case hr => first | (go_simp; done) | (go_simp; rfl)); intro gb150 hg w5 hbox hb; have n0_ := am (Kd.R_below (zR HO0.out) hb); have n1_ := am (Kept.below (S := (fun k_ => P0_ k_)) (by repeat (first | (with_reducible first | exact HK.out | apply Kept.alloc | apply Kept.drewN | apply Kept.drew) | exact HK.out)) hb); have n2_ := am (below_step (zL HB.out) hb); have n3_ := am (hbox); have n4_ := am ((by rw [hg]; exact (by first | exact HK.out.1 | exact (show Kept w _ (fun k_ => P0_ k_) from by repeat (first | (with_reducible first | exact HK.out | apply Kept.alloc | apply Kept.drewN | apply Kept.drew) | exact HK.out)).1) : w.heap.size ≤ gb150)); have n5_ := am ((by rw [hg]; exact (below_size (zL HB.out)) : w0.heap.size ≤ gb150)); clear HO0 HK HB; have HO0 := n0_; have HK := n1_; have HB := n2_; have BK150 := n3_; have GW150 := n4_; have GE150 := n5_; clear n0_ n1_ n2_ n3_ n4_ n5_; clear hb hbox hg; obtain ⟨hcz6_0, hcz6_1, hcz6_2, hcz6_3, hcz6_4, hfz6_0, hfz6_1, hfz6_2, hfz6_3, hfz6_4⟩ := b5 BK150.out)); go_upto_region 2 with (first | ((with_reducible refine gate_dst (N := 3) rfl ?_); (try (refine gate_guard (by rfl) ?_; dsimp only)); refine box_event ?hg (N := 3) ?hd (cs := #[.int .i64 a1_0, .string a1_1, .int .i64 a1_2, .int .i64 a1_3, .slice A1_4 l1_4.length c1_4]) (t := 28) ?hr ?_; (case hd => rfl); (case hg => rfl); (case hr => first | (go_simp; done) | (go_simp; rfl)); intro gb150 hg w5 hbox hb; have n0_ := am (Kd.R_below (zR HO0.out) hb); have n1_ := am (Kept.below (S := (fun k_ => P0_ k_)) (by repeat (first | (with_reducible first | exact HK.out | apply Kept.alloc | apply Kept.drewN | apply Kept.drew) | exact HK.out)) hb); have n2_ := am (below_step (zL HB.out) hb); have n3_ := am (hbox); have n4_ := am ((by rw [hg]; exact (by first | exact HK.out.1 | exact (show Kept w _ (fun k_ => P0_ k_) from by repeat (first | (with_reducible first | exact HK.out | apply Kept.alloc | apply Kept.drewN | apply Kept.drew) | exact HK.out)).1) : w.heap.size ≤ gb150)); have n5_ := am ((by rw [hg]; exact (below_size (zL HB.out)) : w0.heap.size ≤ gb150)); clear HO0 HK HB; have HO0 := n0_; have HK := n1_; have HB := n2_; have BK150 := n3_; have GW150 := n4_; have GE150 := n5_; clear n0_ n1_ n2_ n3_ n4_ n5_; clear hb hbox hg; obtain ⟨hcz6_0, hcz6_1, hcz6_2, hcz6_3, hcz6_4, hfz6_0, hfz6_1, hfz6_2, hfz6_3, hfz6_4⟩ := b5 BK150.out)))
  (try simp only [Act.put, List.setIfInBounds_toArray, List.set_cons_zero, List.set_cons_succ])
  go_cut [30] (fun v30 wc => ∃ (kq : Nat) (x30_3 : Bool), v30 = .bool x30_3 ∧ Aside0 (clusterlocksref07_Add.j0 kq l0 x30_3 a1_0 a1_1 a1_2 a1_3 l1_4 = some (r1, r2)) ∧ Aside0 (kq ≤ k) ∧ Aside0 (Kd.R k25 25 wc w0.heap.size (fun k_ => (P0_ k_ ∨ w.heap.size ≤ k_)) u9000_ l0) ∧ Aside0 (wc.heap[gb150]? = some (.cells #[.int .i64 a1_0, .string a1_1, .int .i64 a1_2, .int .i64 a1_3, (.slice A1_4 l1_4.length c1_4)] 28 (0, 0))) ∧ Aside0 (Kept w wc (fun k_ => P0_ k_)) ∧ Aside0 (Below w0.heap.size w0 wc))
  case first =>
   have H := HC4.out
   clear HC4
   by_cases c7 : a1_0 = 0
   ·rw [if_pos c7] at H
    have c7b0 : (a1_0 == 0) = true := beq_iff_eq.mpr c7
    have c7b1 : (a1_0 != 0) = false := bne_eq_false_iff_eq.mpr c7
    clear c7
    (first | rw [c7b0] | (simp only [i64_w, i32_w]; rw [c7b0]) | skip)
    replace H := Option.bind_eq_some_iff.mp H
    obtain ⟨t151, A80, H⟩ := H
    replace H : (if t151 = true then ((clusterlocksref07_Usable.f a1_2 a1_3).bind fun t152 => (clusterlocksref07_Add.j0 k l0 (!t152) a1_0 a1_1 a1_2 a1_3 l1_4)) else (clusterlocksref07_Add.j0 k l0 true a1_0 a1_1 a1_2 a1_3 l1_4)) = some (r1, r2) := H
    have A8 := Aside0.mk A80
    clear A80
    by_cases c9 : t151 = true
    ·subst c9
     have H1 : ((clusterlocksref07_Usable.f a1_2 a1_3).bind fun t152 => (clusterlocksref07_Add.j0 k l0 (!t152) a1_0 a1_1 a1_2 a1_3 l1_4)) = some (r1, r2) := by rw [if_pos rfl] at H; exact H
     clear H
     have H := H1
     clear H1
     replace H := Option.bind_eq_some_iff.mp H
     obtain ⟨t152, A100, H⟩ := H
     replace H : (clusterlocksref07_Add.j0 k l0 (!t152) a1_0 a1_1 a1_2 a1_3 l1_4) = some (r1, r2) := H
     have A10 := Aside0.mk A100
     clear A100
     have H' := Aside0.mk H
     clear H
     obtain ⟨hcz11_0, hcz11_1, hcz11_2, hcz11_3, hcz11_4, hfz11_0, hfz11_1, hfz11_2, hfz11_3, hfz11_4⟩ := b5 BK150.out
     go_wp2_with (first | (go_at_call 58; (with_reducible refine (clusterlocksref05_ValidName.calls k a1_1 true _ A8.out).mono ?_); rintro e w' ⟨rfl, ⟨nd, rfl⟩⟩; (try first | exact ⟨rfl, _, World.drewN_drewN _ _ _⟩ | exact ⟨rfl, _, Eq.trans (World.drewN_drewN _ _ _) (congrArg (World.drewN _) (Nat.add_assoc _ _ _))⟩)) | (go_at_call 59; (with_reducible refine (clusterlocksref07_Usable.calls a1_2 a1_3 t152 _ A10.out).mono ?_); rintro e w12 ⟨rfl, hb⟩; have n0_ := am (Kd.R_below (zR HO0.out) hb); have n1_ := am (blk_below (zB BK150.out) hb); have n2_ := am (Kept.below (S := (fun k_ => P0_ k_)) (zK HK.out) hb); have n3_ := am (below_step (zL HB.out) hb); clear HO0 BK150 HK HB; have HO0 := n0_; have BK150 := n1_; have HK := n2_; have HB := n3_; clear n0_ n1_ n2_ n3_; (try clear hb); (try clear hb2); (try clear hk); (try clear hi)))
     repeat (go_quiet (first | (go_at_call 58; (with_reducible refine (clusterlocksref05_ValidName.calls k a1_1 true _ A8.out).mono ?_); rintro e w' ⟨rfl, ⟨nd, rfl⟩⟩; (try first | exact ⟨rfl, _, World.drewN_drewN _ _ _⟩ | exact ⟨rfl, _, Eq.trans (World.drewN_drewN _ _ _) (congrArg (World.drewN _) (Nat.add_assoc _ _ _))⟩)) | (go_at_call 59; (with_reducible refine (clusterlocksref07_Usable.calls a1_2 a1_3 t152 _ A10.out).mono ?_); rintro e w12 ⟨rfl, hb⟩; have n0_ := am (Kd.R_below (zR HO0.out) hb); have n1_ := am (blk_below (zB BK150.out) hb); have n2_ := am (Kept.below (S := (fun k_ => P0_ k_)) (zK HK.out) hb); have n3_ := am (below_step (zL HB.out) hb); clear HO0 BK150 HK HB; have HO0 := n0_; have BK150 := n1_; have HK := n2_; have HB := n3_; clear n0_ n1_ n2_ n3_; (try clear hb); (try clear hb2); (try clear hk); (try clear hi))); try go_wp2_with (first | (go_at_call 58; (with_reducible refine (clusterlocksref05_ValidName.calls k a1_1 true _ A8.out).mono ?_); rintro e w' ⟨rfl, ⟨nd, rfl⟩⟩; (try first | exact ⟨rfl, _, World.drewN_drewN _ _ _⟩ | exact ⟨rfl, _, Eq.trans (World.drewN_drewN _ _ _) (congrArg (World.drewN _) (Nat.add_assoc _ _ _))⟩)) | (go_at_call 59; (with_reducible refine (clusterlocksref07_Usable.calls a1_2 a1_3 t152 _ A10.out).mono ?_); rintro e w12 ⟨rfl, hb⟩; have n0_ := am (Kd.R_below (zR HO0.out) hb); have n1_ := am (blk_below (zB BK150.out) hb); have n2_ := am (Kept.below (S := (fun k_ => P0_ k_)) (zK HK.out) hb); have n3_ := am (below_step (zL HB.out) hb); clear HO0 BK150 HK HB; have HO0 := n0_; have BK150 := n1_; have HK := n2_; have HB := n3_; clear n0_ n1_ n2_ n3_; (try clear hb); (try clear hb2); (try clear hk); (try clear hi))))
     go_meet
     case rel => exact ⟨_, (!t152), (by first | rfl | (simp; done) | (simp [*]; done)), H', ⟨by first | omega | exact Nat.le_refl _⟩, ⟨by exact zR HO0.out⟩, ⟨by exact zB <| BK150.out⟩, ⟨by repeat (first | (with_reducible first | exact HK.out | apply Kept.alloc | apply Kept.drewN | apply Kept.drew | refine Kept.setCell ?_ (.inr GW150.out) _) | exact HK.out)⟩, ⟨by repeat (first | (with_reducible first | exact HB.out | apply ba | apply bd | apply be | refine below_set ?_ GE150.out) | exact HB.out)⟩⟩
    ·replace c9 := Bool.eq_false_iff.mpr c9
     subst c9
     have H1 : (clusterlocksref07_Add.j0 k l0 true a1_0 a1_1 a1_2 a1_3 l1_4) = some (r1, r2) := by rw [if_neg (show ¬ (false = true) by decide)] at H; exact H
     clear H
     have H := H1
     clear H1
     have H' := Aside0.mk H
     clear H
     obtain ⟨hcz13_0, hcz13_1, hcz13_2, hcz13_3, hcz13_4, hfz13_0, hfz13_1, hfz13_2, hfz13_3, hfz13_4⟩ := b5 BK150.out
     go_wp2_with (first | (go_at_call 58; (with_reducible refine (clusterlocksref05_ValidName.calls k a1_1 false _ A8.out).mono ?_); rintro e w' ⟨rfl, ⟨nd, rfl⟩⟩; (try first | exact ⟨rfl, _, World.drewN_drewN _ _ _⟩ | exact ⟨rfl, _, Eq.trans (World.drewN_drewN _ _ _) (congrArg (World.drewN _) (Nat.add_assoc _ _ _))⟩)))
     repeat (go_quiet (first | (go_at_call 58; (with_reducible refine (clusterlocksref05_ValidName.calls k a1_1 false _ A8.out).mono ?_); rintro e w' ⟨rfl, ⟨nd, rfl⟩⟩; (try first | exact ⟨rfl, _, World.drewN_drewN _ _ _⟩ | exact ⟨rfl, _, Eq.trans (World.drewN_drewN _ _ _) (congrArg (World.drewN _) (Nat.add_assoc _ _ _))⟩))); try go_wp2_with (first | (go_at_call 58; (with_reducible refine (clusterlocksref05_ValidName.calls k a1_1 false _ A8.out).mono ?_); rintro e w' ⟨rfl, ⟨nd, rfl⟩⟩; (try first | exact ⟨rfl, _, World.drewN_drewN _ _ _⟩ | exact ⟨rfl, _, Eq.trans (World.drewN_drewN _ _ _) (congrArg (World.drewN _) (Nat.add_assoc _ _ _))⟩))))
     go_meet
     case rel => exact ⟨_, (true), (by first | rfl | (simp; done) | (simp [*]; done)), H', ⟨by first | omega | exact Nat.le_refl _⟩, ⟨by exact zR HO0.out⟩, ⟨by exact zB <| BK150.out⟩, ⟨by repeat (first | (with_reducible first | exact HK.out | apply Kept.alloc | apply Kept.drewN | apply Kept.drew | refine Kept.setCell ?_ (.inr GW150.out) _) | exact HK.out)⟩, ⟨by repeat (first | (with_reducible first | exact HB.out | apply ba | apply bd | apply be | refine below_set ?_ GE150.out) | exact HB.out)⟩⟩
   ·rw [if_neg c7] at H
    have c7b0 : (a1_0 == 0) = false := beq_eq_false_iff_ne.mpr c7
    have c7b1 : (a1_0 != 0) = true := bne_iff_ne.mpr c7
    (first | rw [c7b0] | (simp only [i64_w, i32_w]; rw [c7b0]) | skip)
    have H' := Aside0.mk H
    clear H
    obtain ⟨hcz14_0, hcz14_1, hcz14_2, hcz14_3, hcz14_4, hfz14_0, hfz14_1, hfz14_2, hfz14_3, hfz14_4⟩ := b5 BK150.out
    go_wp2
    repeat (go_quiet (fail); try go_wp2)
    go_meet
    case rel => exact ⟨_, (true), (by first | rfl | (simp; done) | (simp [*]; done)), H', ⟨by first | omega | exact Nat.le_refl _⟩, ⟨by exact zR HO0.out⟩, ⟨by exact zB <| BK150.out⟩, ⟨by repeat (first | (with_reducible first | exact HK.out | apply Kept.alloc | apply Kept.drewN | apply Kept.drew | refine Kept.setCell ?_ (.inr GW150.out) _) | exact HK.out)⟩, ⟨by repeat (first | (with_reducible first | exact HB.out | apply ba | apply bd | apply be | refine below_set ?_ GE150.out) | exact HB.out)⟩⟩
  case rest =>
   clear HC4
   try clear c1
   try clear p2
   try clear c3
   try clear c3b0
   try clear c3b1
   try clear c4
   try clear c7
   try clear c7b0
   try clear c7b1
   try clear c9
   try clear hcz11_0
   try clear hcz11_1
   try clear hcz11_2
   try clear hcz11_3
   try clear hcz11_4
   try clear hcz13_0
   try clear hcz13_1
   try clear hcz13_2
   try clear hcz13_3
   try clear hcz13_4
   try clear hcz14_0
   try clear hcz14_1
   try clear hcz14_2
   try clear hcz14_3
   try clear hcz14_4
   try clear hcz6_0
   try clear hcz6_1
   try clear hcz6_2
   try clear hcz6_3
   try clear hcz6_4
   try clear hfz11_0
   try clear hfz11_1
   try clear hfz11_2
   try clear hfz11_3
   try clear hfz11_4
   try clear hfz13_0
   try clear hfz13_1
   try clear hfz13_2
   try clear hfz13_3
   try clear hfz13_4
   try clear hfz14_0
   try clear hfz14_1
   try clear hfz14_2
   try clear hfz14_3
   try clear hfz14_4
   try clear hfz6_0
   try clear hfz6_1
   try clear hfz6_2
   try clear hfz6_3
   try clear hfz6_4
   obtain ⟨kq, x30_3, rfl, HA, HJ3, HO_0, BK150, HK, HB⟩ := hcut
   cases kq with
   | zero => exact absurd HA.out (by simp [clusterlocksref07_Add.j0])
   | succ kj3 =>
    have H := HA.out
    clear HA
    simp only [clusterlocksref07_Add.j0] at H
    by_cases c15 : x30_3 = true
    ·subst c15
     have H1 : (some (l0, false)) = some (r1, r2) := by rw [if_pos rfl] at H; exact H
     clear H
     have H := H1
     clear H1
     simp only [Option.some.injEq, Prod.mk.injEq] at H
     obtain ⟨rfl, rfl⟩ := H
     go_wp2
     repeat (go_quiet (fail); try go_wp2)
     go_ret2
     exact ⟨_, by first | rfl | (simp [errW_none, errW_some] <;> rfl) | (simp [*, errW_none, errW_some] <;> rfl), (by first | exact (zR HO_0.out) | exact fun _ => (zR HO_0.out)), by repeat (first | (with_reducible first | exact HB.out | apply ba | apply bd | apply be | refine below_set ?_ GE150.out) | exact HB.out), by repeat (first | (with_reducible first | exact HK.out | apply Kept.alloc | apply Kept.drewN | apply Kept.drew | refine Kept.setCell ?_ (.inr GW150.out) _) | exact HK.out)⟩
    ·replace c15 := Bool.eq_false_iff.mpr c15
     subst c15
     have H1 : (clusterlocksref07_Add.l0 kj3 l0 0 a1_0 a1_1 a1_2 a1_3 l1_4) = some (r1, r2) := by rw [if_neg (show ¬ (false = true) by decide)] at H; exact H
     clear H
     have H := H1
     clear H1
     have H' := Aside0.mk H
     clear H
     go_wp2
     repeat (go_quiet (fail); try go_wp2)
     go_loopg [6] kj3 (fun kq v6 w' => ∃ (x6_2 : Int), v6 = .int .i64 x6_2 ∧ Aside0 (clusterlocksref07_Add.l0 kq l0 x6_2 a1_0 a1_1 a1_2 a1_3 l1_4 = some (r1, r2)) ∧ Aside0 (kq ≤ kj3) ∧ Aside0 (Kd.R k25 25 w' w0.heap.size (fun k_ => (P0_ k_ ∨ w.heap.size ≤ k_)) u9000_ l0) ∧ Aside0 (w'.heap[gb150]? = some (.cells #[.int .i64 a1_0, .string a1_1, .int .i64 a1_2, .int .i64 a1_3, (.slice A1_4 l1_4.length c1_4)] 28 (0, 0))) ∧ Aside0 (Kept w w' (fun k_ => P0_ k_)) ∧ Aside0 (Below w0.heap.size w0 w'))
     case atStart => exact ⟨(0), (by first | rfl | (simp; done) | (simp [*]; done)), H', ⟨Nat.le_refl _⟩, ⟨by exact zR HO_0.out⟩, ⟨by exact zB <| BK150.out⟩, ⟨by repeat (first | (with_reducible first | exact HK.out | apply Kept.alloc | apply Kept.drewN | apply Kept.drew | refine Kept.setCell ?_ (.inr GW150.out) _) | exact HK.out)⟩, ⟨by repeat (first | (with_reducible first | exact HB.out | apply ba | apply bd | apply be | refine below_set ?_ GE150.out) | exact HB.out)⟩⟩
     case round =>
      clear H'
      try clear c1
      try clear p2
      try clear c3
      try clear c3b0
      try clear c3b1
      try clear c4
      try clear c7
      try clear c7b0
      try clear c7b1
      try clear c9
      try clear c15
      try clear hcz11_0
      try clear hcz11_1
      try clear hcz11_2
      try clear hcz11_3
      try clear hcz11_4
      try clear hcz13_0
      try clear hcz13_1
      try clear hcz13_2
      try clear hcz13_3
      try clear hcz13_4
      try clear hcz14_0
      try clear hcz14_1
      try clear hcz14_2
      try clear hcz14_3
      try clear hcz14_4
      try clear hcz6_0
      try clear hcz6_1
      try clear hcz6_2
      try clear hcz6_3
      try clear hcz6_4
      try clear hfz11_0
      try clear hfz11_1
      try clear hfz11_2
      try clear hfz11_3
      try clear hfz11_4
      try clear hfz13_0
      try clear hfz13_1
      try clear hfz13_2
      try clear hfz13_3
      try clear hfz13_4
      try clear hfz14_0
      try clear hfz14_1
      try clear hfz14_2
      try clear hfz14_3
      try clear hfz14_4
      try clear hfz6_0
      try clear hfz6_1
      try clear hfz6_2
      try clear hfz6_3
      try clear hfz6_4
      try clear p2
      obtain ⟨x6_2, rfl, HA, HK2, HO_0, BK150, HK, HB⟩ := hrel
      cases gk with
      | zero => exact absurd HA.out (by simp [clusterlocksref07_Add.l0])
      | succ k2 =>
       have H := HA.out
       clear HA
       simp only [clusterlocksref07_Add.l0] at H
       by_cases c16 : x6_2 < (l0.length : Int)
       ·rw [if_pos c16] at H
        have c16b0 : decide (x6_2 < (l0.length : Int)) = true := decide_eq_true c16
        clear c16
        by_cases c17 : 0 ≤ x6_2
        ·rw [if_pos c17] at H
         have c17b0 : decide (0 ≤ x6_2) = true := decide_eq_true c17
         clear c17
         by_cases c18 : ((((rd_T25 l0 x6_2).f0).toList) == a1_1.toList && ((((rd_T25 l0 x6_2).f1.f0) == a1_2 && (((rd_T25 l0 x6_2).f1.f1) == a1_3)))) = true
         ·rw [if_pos c18] at H
          have c18b0 : ((((rd_T25 l0 x6_2).f0).toList) == a1_1.toList && ((((rd_T25 l0 x6_2).f1.f0) == a1_2 && (((rd_T25 l0 x6_2).f1.f1) == a1_3)))) = true := c18
          (try (have c18b1 : decide ((((rd_T25 l0 x6_2).f0).toList) = a1_1.toList && ((((rd_T25 l0 x6_2).f1.f0) == a1_2 && (((rd_T25 l0 x6_2).f1.f1) == a1_3)))) = true := by simpa using c18))
          (try (have c18b2 : ((((rd_T25 l0 x6_2).f0).toList) == a1_1.toList && ((((rd_T25 l0 x6_2).f1.f0) == a1_2 && (((rd_T25 l0 x6_2).f1.f1) == a1_3)))) = true := by simpa using c18))
          clear c18
          simp only [Option.some.injEq, Prod.mk.injEq] at H
          obtain ⟨rfl, rfl⟩ := H
          obtain ⟨Ao19, co19, eo19⟩ := Kd.R_slice HO_0.out
          subst eo19
          have p153 : 0 ≤ (x6_2 : Int) := of_decide_eq_true (by first | (with_reducible assumption) | assumption)
          have q153 : x6_2 < (l0.length : Int) := of_decide_eq_true (by first | (with_reducible assumption) | assumption)
          obtain ⟨ad153, e153, hx153_0, hx153_1, hx153_2⟩ := at_T25 (Kd.R_reads' HO_0.out).2.2 x6_2 p153 q153
          cases e153
          replace p153 := eq_true p153
          replace q153 := eq_true q153
          obtain ⟨hcz20_0, hcz20_1, hcz20_2, hcz20_3, hcz20_4, hfz20_0, hfz20_1, hfz20_2, hfz20_3, hfz20_4⟩ := b5 BK150.out
          go_wp2
          repeat (go_quiet (fail); try go_wp2)
          go_ret2
          exact ⟨_, by first | rfl | (simp [errW_none, errW_some] <;> rfl) | (simp [*, errW_none, errW_some] <;> rfl), (by first | exact (zR HO_0.out) | exact fun _ => (zR HO_0.out)), by repeat (first | (with_reducible first | exact HB.out | apply ba | apply bd | apply be | refine below_set ?_ GE150.out) | exact HB.out), by repeat (first | (with_reducible first | exact HK.out | apply Kept.alloc | apply Kept.drewN | apply Kept.drew | refine Kept.setCell ?_ (.inr GW150.out) _) | exact HK.out)⟩
         ·rw [if_neg c18] at H
          have c18b0 : ((((rd_T25 l0 x6_2).f0).toList) == a1_1.toList && ((((rd_T25 l0 x6_2).f1.f0) == a1_2 && (((rd_T25 l0 x6_2).f1.f1) == a1_3)))) = false := by simpa using c18
          (try (have c18b1 : decide ((((rd_T25 l0 x6_2).f0).toList) = a1_1.toList && ((((rd_T25 l0 x6_2).f1.f0) == a1_2 && (((rd_T25 l0 x6_2).f1.f1) == a1_3)))) = false := by simpa using c18))
          (try (have c18b2 : ((((rd_T25 l0 x6_2).f0).toList) == a1_1.toList && ((((rd_T25 l0 x6_2).f1.f0) == a1_2 && (((rd_T25 l0 x6_2).f1.f1) == a1_3)))) = false := by simpa using c18))
          (try (have c18b3 : ¬ ((((rd_T25 l0 x6_2).f0).toList) = a1_1.toList && ((((rd_T25 l0 x6_2).f1.f0) == a1_2 && (((rd_T25 l0 x6_2).f1.f1) == a1_3)))) := by simpa using c18))
          clear c18
          have H' := Aside0.mk H
          clear H
          obtain ⟨Ao21, co21, eo21⟩ := Kd.R_slice HO_0.out
          subst eo21
          have p153 : 0 ≤ (x6_2 : Int) := of_decide_eq_true (by first | (with_reducible assumption) | assumption)
          have q153 : x6_2 < (l0.length : Int) := of_decide_eq_true (by first | (with_reducible assumption) | assumption)
          obtain ⟨ad153, e153, hx153_0, hx153_1, hx153_2⟩ := at_T25 (Kd.R_reads' HO_0.out).2.2 x6_2 p153 q153
          cases e153
          replace p153 := eq_true p153
          replace q153 := eq_true q153
          obtain ⟨hcz22_0, hcz22_1, hcz22_2, hcz22_3, hcz22_4, hfz22_0, hfz22_1, hfz22_2, hfz22_3, hfz22_4⟩ := b5 BK150.out
          go_wp2
          repeat (go_quiet (fail); try go_wp2)
          go_roundg k2
          case measure => have := HJ3.out; have := HK2.out; omega
          case rel => exact ⟨(wrap64 (x6_2 + 1)), (by first | rfl | (simp; done) | (simp [*]; done)), H', ⟨by have := HJ3.out; have := HK2.out; omega⟩, ⟨by exact zR HO_0.out⟩, ⟨by exact zB <| BK150.out⟩, ⟨by repeat (first | (with_reducible first | exact HK.out | apply Kept.alloc | apply Kept.drewN | apply Kept.drew | refine Kept.setCell ?_ (.inr GW150.out) _) | exact HK.out)⟩, ⟨by repeat (first | (with_reducible first | exact HB.out | apply ba | apply bd | apply be | refine below_set ?_ GE150.out) | exact HB.out)⟩⟩
        ·rw [if_neg c17] at H
         exact absurd H (by simp)
       ·rw [if_neg c16] at H
        have c16b0 : decide (x6_2 < (l0.length : Int)) = false := decide_eq_false c16
        clear c16
        by_cases c23 : l0.length < 4398046511104
        ·rw [if_pos c23] at H
         have LMc23 := Aside0.mk c23
         clear c23
         obtain ⟨y154, hy154⟩ : ∃ y_ : List (S25), y_ = (l0 ++ [(⟨a1_1, (⟨a1_2, a1_3⟩ : S23)⟩ : S25)]) := ⟨_, rfl⟩
         replace H : (some (y154, true)) = some (r1, r2) := by first | (rw [hy154]; with_reducible exact H) | (have H2_ := (Option.bind_some _ _).symm.trans H; rw [hy154]; with_reducible exact H2_) | (have H2_ := (Option.bind_some _ _).symm.trans H; with_reducible exact H2_) | with_reducible exact H | (rw [hy154]; exact H) | exact H
         have Ny154 := Aside0.mk hy154
         clear hy154
         simp only [Option.some.injEq, Prod.mk.injEq] at H
         obtain ⟨rfl, rfl⟩ := H
         obtain ⟨Ao24, co24, eo24⟩ := Kd.R_slice HO_0.out
         subst eo24
         obtain ⟨hcz25_0, hcz25_1, hcz25_2, hcz25_3, hcz25_4, hfz25_0, hfz25_1, hfz25_2, hfz25_3, hfz25_4⟩ := b5 BK150.out
         go_wp2_with (first | ((with_reducible refine gate_builtin (b := .append) (xs := #[.tmp 46, .tmp 49]) rfl ?_); (try (refine gate_guard (by rfl) ?_; dsimp only)); at_builtin; refine Kd.R_append k25 (w0 := w0) w0.heap.size rfl (.tmp 46) (.tmp 49) 29 25 (.agg #[(.string ⟨#[]⟩), (.int .i64 0), (.int .i64 0)]) 32 rfl Try.underlying29 info25 rfl (by decide) (by omega) (.slice Ao24 l0.length co24) l0 (⟨a1_1, (⟨a1_2, a1_3⟩ : S23)⟩ : S25) [.string a1_1, .int .i64 a1_2, .int .i64 a1_3] (fun k_ => (P0_ k_ ∨ w.heap.size ≤ k_)) (fun _ => False) rfl rfl ?aP (fun _ hk => hk.elim) ?aF ?aO ?aB ?aS ?aL ?_; (case aP => exact k25_mkM _ _ _ (⟨a1_1, (⟨a1_2, a1_3⟩ : S23)⟩ : S25)); (case aB => exact (zL HB.out)); (case aF => exact (fun k_ hk => (.inr (Nat.le_trans (by first | exact HK.out.1 | exact (show Kept w _ (fun k_ => P0_ k_) from zK HK.out).1) hk)))); (case aO => exact (zR HO_0.out)); (case aS => exact (below_size (zL HB.out))); (case aL => have := LMc23.out; omega); intro v155 w26 ho hb hg hat; rw [← Ny154.out] at ho; have n0_ := am (blk_grown (g := gb150) (o := .cells #[.int .i64 a1_0, .string a1_1, .int .i64 a1_2, .int .i64 a1_3, .slice A1_4 l1_4.length c1_4] 28 (0, 0)) (zB BK150.out) hg (Kd.R_ne HO_0.out BK150.out (by decide))); have n1_ := am (hb); have n2_ := am (Kept.of_grown (S := (fun k_ => P0_ k_)) hg (zK HK.out) (fun k_ e_ => (HO_0.out.1 k_ e_))); have n3_ := am (ho); clear BK150 HB HK HO_0; have BK150 := n0_; have HB := n1_; have HK := n2_; have HO156 := n3_; clear n0_ n1_ n2_ n3_; clear ho hb hg hat))
         repeat (go_quiet (first | ((with_reducible refine gate_builtin (b := .append) (xs := #[.tmp 46, .tmp 49]) rfl ?_); (try (refine gate_guard (by rfl) ?_; dsimp only)); at_builtin; refine Kd.R_append k25 (w0 := w0) w0.heap.size rfl (.tmp 46) (.tmp 49) 29 25 (.agg #[(.string ⟨#[]⟩), (.int .i64 0), (.int .i64 0)]) 32 rfl Try.underlying29 info25 rfl (by decide) (by omega) (.slice Ao24 l0.length co24) l0 (⟨a1_1, (⟨a1_2, a1_3⟩ : S23)⟩ : S25) [.string a1_1, .int .i64 a1_2, .int .i64 a1_3] (fun k_ => (P0_ k_ ∨ w.heap.size ≤ k_)) (fun _ => False) rfl rfl ?aP (fun _ hk => hk.elim) ?aF ?aO ?aB ?aS ?aL ?_; (case aP => exact k25_mkM _ _ _ (⟨a1_1, (⟨a1_2, a1_3⟩ : S23)⟩ : S25)); (case aB => exact (zL HB.out)); (case aF => exact (fun k_ hk => (.inr (Nat.le_trans (by first | exact HK.out.1 | exact (show Kept w _ (fun k_ => P0_ k_) from zK HK.out).1) hk)))); (case aO => exact (zR HO_0.out)); (case aS => exact (below_size (zL HB.out))); (case aL => have := LMc23.out; omega); intro v155 w26 ho hb hg hat; rw [← Ny154.out] at ho; have n0_ := am (blk_grown (g := gb150) (o := .cells #[.int .i64 a1_0, .string a1_1, .int .i64 a1_2, .int .i64 a1_3, .slice A1_4 l1_4.length c1_4] 28 (0, 0)) (zB BK150.out) hg (Kd.R_ne HO_0.out BK150.out (by decide))); have n1_ := am (hb); have n2_ := am (Kept.of_grown (S := (fun k_ => P0_ k_)) hg (zK HK.out) (fun k_ e_ => (HO_0.out.1 k_ e_))); have n3_ := am (ho); clear BK150 HB HK HO_0; have BK150 := n0_; have HB := n1_; have HK := n2_; have HO156 := n3_; clear n0_ n1_ n2_ n3_; clear ho hb hg hat)); try go_wp2_with (first | ((with_reducible refine gate_builtin (b := .append) (xs := #[.tmp 46, .tmp 49]) rfl ?_); (try (refine gate_guard (by rfl) ?_; dsimp only)); at_builtin; refine Kd.R_append k25 (w0 := w0) w0.heap.size rfl (.tmp 46) (.tmp 49) 29 25 (.agg #[(.string ⟨#[]⟩), (.int .i64 0), (.int .i64 0)]) 32 rfl Try.underlying29 info25 rfl (by decide) (by omega) (.slice Ao24 l0.length co24) l0 (⟨a1_1, (⟨a1_2, a1_3⟩ : S23)⟩ : S25) [.string a1_1, .int .i64 a1_2, .int .i64 a1_3] (fun k_ => (P0_ k_ ∨ w.heap.size ≤ k_)) (fun _ => False) rfl rfl ?aP (fun _ hk => hk.elim) ?aF ?aO ?aB ?aS ?aL ?_; (case aP => exact k25_mkM _ _ _ (⟨a1_1, (⟨a1_2, a1_3⟩ : S23)⟩ : S25)); (case aB => exact (zL HB.out)); (case aF => exact (fun k_ hk => (.inr (Nat.le_trans (by first | exact HK.out.1 | exact (show Kept w _ (fun k_ => P0_ k_) from zK HK.out).1) hk)))); (case aO => exact (zR HO_0.out)); (case aS => exact (below_size (zL HB.out))); (case aL => have := LMc23.out; omega); intro v155 w26 ho hb hg hat; rw [← Ny154.out] at ho; have n0_ := am (blk_grown (g := gb150) (o := .cells #[.int .i64 a1_0, .string a1_1, .int .i64 a1_2, .int .i64 a1_3, .slice A1_4 l1_4.length c1_4] 28 (0, 0)) (zB BK150.out) hg (Kd.R_ne HO_0.out BK150.out (by decide))); have n1_ := am (hb); have n2_ := am (Kept.of_grown (S := (fun k_ => P0_ k_)) hg (zK HK.out) (fun k_ e_ => (HO_0.out.1 k_ e_))); have n3_ := am (ho); clear BK150 HB HK HO_0; have BK150 := n0_; have HB := n1_; have HK := n2_; have HO156 := n3_; clear n0_ n1_ n2_ n3_; clear ho hb hg hat)))
         go_ret2
         exact ⟨_, by first | rfl | (simp [errW_none, errW_some] <;> rfl) | (simp [*, errW_none, errW_some] <;> rfl), (by first | exact (zR HO156.out) | exact fun _ => (zR HO156.out)), by repeat (first | (with_reducible first | exact HB.out | apply ba | apply bd | apply be | refine below_set ?_ GE150.out) | exact HB.out), by repeat (first | (with_reducible first | exact HK.out | apply Kept.alloc | apply Kept.drewN | apply Kept.drew | refine Kept.setCell ?_ (.inr GW150.out) _) | exact HK.out)⟩
        ·rw [if_neg c23] at H
         exact absurd H (by simp)
 ·rw [if_neg c3] at H
  have c3b0 : ((l1_4.length : Int) == 0) = false := beq_eq_false_iff_ne.mpr c3
  have c3b1 : ((l1_4.length : Int) != 0) = true := bne_iff_ne.mpr c3
  have c3b2 : ¬ (l1_4 = []) := fun h_ => c3 (by rw [h_]; rfl)
  have HC27 := Aside0.mk H
  clear H
  go_enter Try.func43, Try.ntmps43
  go_upto_region 10 with (first | ((with_reducible refine gate_dst (N := 3) rfl ?_); (try (refine gate_guard (by rfl) ?_; dsimp only)); refine box_event ?hg (N := 3) ?hd (cs := #[.int .i64 a1_0, .string a1_1, .int .i64 a1_2, .int .i64 a1_3, .slice A1_4 l1_4.length c1_4]) (t := 28) ?hr ?_; (case hd => rfl); (case hg => rfl); (case hr => first | (go_simp; done) | (go_simp; rfl)); intro gb150 hg w28 hbox hb; have n0_ := am (Kd.R_below (zR HO0.out) hb); have n1_ := am (Kept.below (S := (fun k_ => P0_ k_)) (by repeat (first | (with_reducible first | exact HK.out | apply Kept.alloc | apply Kept.drewN | apply Kept.drew) | exact HK.out)) hb); have n2_ := am (below_step (zL HB.out) hb); have n3_ := am (hbox); have n4_ := am ((by rw [hg]; exact (by first | exact HK.out.1 | exact (show Kept w _ (fun k_ => P0_ k_) from by repeat (first | (with_reducible first | exact HK.out | apply Kept.alloc | apply Kept.drewN | apply Kept.drew) | exact HK.out)).1) : w.heap.size ≤ gb150)); have n5_ := am ((by rw [hg]; exact (below_size (zL HB.out)) : w0.heap.size ≤ gb150)); clear HO0 HK HB; have HO0 := n0_; have HK := n1_; have HB := n2_; have BK150 := n3_; have GW150 := n4_; have GE150 := n5_; clear n0_ n1_ n2_ n3_ n4_ n5_; clear hb hbox hg; obtain ⟨hcz29_0, hcz29_1, hcz29_2, hcz29_3, hcz29_4, hfz29_0, hfz29_1, hfz29_2, hfz29_3, hfz29_4⟩ := b5 BK150.out))
  repeat (go_quiet (first | ((with_reducible refine gate_dst (N := 3) rfl ?_); (try (refine gate_guard (by rfl) ?_; dsimp only)); refine box_event ?hg (N := 3) ?hd (cs := #[.int .i64 a1_0, .string a1_1, .int .i64 a1_2, .int .i64 a1_3, .slice A1_4 l1_4.length c1_4]) (t := 28) ?hr ?_; (case hd => rfl); (case hg => rfl); (case hr => first | (go_simp; done) | (go_simp; rfl)); intro gb150 hg w28 hbox hb; have n0_ := am (Kd.R_below (zR HO0.out) hb); have n1_ := am (Kept.below (S := (fun k_ => P0_ k_)) (by repeat (first | (with_reducible first | exact HK.out | apply Kept.alloc | apply Kept.drewN | apply Kept.drew) | exact HK.out)) hb); have n2_ := am (below_step (zL HB.out) hb); have n3_ := am (hbox); have n4_ := am ((by rw [hg]; exact (by first | exact HK.out.1 | exact (show Kept w _ (fun k_ => P0_ k_) from by repeat (first | (with_reducible first | exact HK.out | apply Kept.alloc | apply Kept.drewN | apply Kept.drew) | exact HK.out)).1) : w.heap.size ≤ gb150)); have n5_ := am ((by rw [hg]; exact (below_size (zL HB.out)) : w0.heap.size ≤ gb150)); clear HO0 HK HB; have HO0 := n0_; have HK := n1_; have HB := n2_; have BK150 := n3_; have GW150 := n4_; have GE150 := n5_; clear n0_ n1_ n2_ n3_ n4_ n5_; clear hb hbox hg; obtain ⟨hcz29_0, hcz29_1, hcz29_2, hcz29_3, hcz29_4, hfz29_0, hfz29_1, hfz29_2, hfz29_3, hfz29_4⟩ := b5 BK150.out)); go_upto_region 10 with (first | ((with_reducible refine gate_dst (N := 3) rfl ?_); (try (refine gate_guard (by rfl) ?_; dsimp only)); refine box_event ?hg (N := 3) ?hd (cs := #[.int .i64 a1_0, .string a1_1, .int .i64 a1_2, .int .i64 a1_3, .slice A1_4 l1_4.length c1_4]) (t := 28) ?hr ?_; (case hd => rfl); (case hg => rfl); (case hr => first | (go_simp; done) | (go_simp; rfl)); intro gb150 hg w28 hbox hb; have n0_ := am (Kd.R_below (zR HO0.out) hb); have n1_ := am (Kept.below (S := (fun k_ => P0_ k_)) (by repeat (first | (with_reducible first | exact HK.out | apply Kept.alloc | apply Kept.drewN | apply Kept.drew) | exact HK.out)) hb); have n2_ := am (below_step (zL HB.out) hb); have n3_ := am (hbox); have n4_ := am ((by rw [hg]; exact (by first | exact HK.out.1 | exact (show Kept w _ (fun k_ => P0_ k_) from by repeat (first | (with_reducible first | exact HK.out | apply Kept.alloc | apply Kept.drewN | apply Kept.drew) | exact HK.out)).1) : w.heap.size ≤ gb150)); have n5_ := am ((by rw [hg]; exact (below_size (zL HB.out)) : w0.heap.size ≤ gb150)); clear HO0 HK HB; have HO0 := n0_; have HK := n1_; have HB := n2_; have BK150 := n3_; have GW150 := n4_; have GE150 := n5_; clear n0_ n1_ n2_ n3_ n4_ n5_; clear hb hbox hg; obtain ⟨hcz29_0, hcz29_1, hcz29_2, hcz29_3, hcz29_4, hfz29_0, hfz29_1, hfz29_2, hfz29_3, hfz29_4⟩ := b5 BK150.out)))
  (try simp only [Act.put, List.setIfInBounds_toArray, List.set_cons_zero, List.set_cons_succ])
  go_cut [67] (fun v67 wc => ∃ (kq : Nat) (x67_26 : Bool), v67 = .bool x67_26 ∧ Aside0 (clusterlocksref07_Add.j2 kq l0 x67_26 a1_0 a1_1 a1_2 a1_3 l1_4 = some (r1, r2)) ∧ Aside0 (kq ≤ k) ∧ Aside0 (Kd.R k25 25 wc w0.heap.size (fun k_ => (P0_ k_ ∨ w.heap.size ≤ k_)) u9000_ l0) ∧ Aside0 (wc.heap[gb150]? = some (.cells #[.int .i64 a1_0, .string a1_1, .int .i64 a1_2, .int .i64 a1_3, (.slice A1_4 l1_4.length c1_4)] 28 (0, 0))) ∧ Aside0 (Kept w wc (fun k_ => P0_ k_)) ∧ Aside0 (Below w0.heap.size w0 wc))
  case first =>
   have H := HC27.out
   clear HC27
   by_cases c30 : a1_0 < 1
   ·rw [if_pos c30] at H
    have c30b0 : decide (a1_0 < 1) = true := decide_eq_true c30
    clear c30
    (first | rw [c30b0] | (simp only [i64_w, i32_w]; rw [c30b0]) | skip)
    have H' := Aside0.mk H
    clear H
    obtain ⟨hcz31_0, hcz31_1, hcz31_2, hcz31_3, hcz31_4, hfz31_0, hfz31_1, hfz31_2, hfz31_3, hfz31_4⟩ := b5 BK150.out
    go_wp2
    repeat (go_quiet (fail); try go_wp2)
    go_meet
    case rel => exact ⟨_, (true), (by first | rfl | (simp; done) | (simp [*]; done)), H', ⟨by first | omega | exact Nat.le_refl _⟩, ⟨by exact zR HO0.out⟩, ⟨by exact zB <| BK150.out⟩, ⟨by repeat (first | (with_reducible first | exact HK.out | apply Kept.alloc | apply Kept.drewN | apply Kept.drew | refine Kept.setCell ?_ (.inr GW150.out) _) | exact HK.out)⟩, ⟨by repeat (first | (with_reducible first | exact HB.out | apply ba | apply bd | apply be | refine below_set ?_ GE150.out) | exact HB.out)⟩⟩
   ·rw [if_neg c30] at H
    have c30b0 : decide (a1_0 < 1) = false := decide_eq_false c30
    clear c30
    (first | rw [c30b0] | (simp only [i64_w, i32_w]; rw [c30b0]) | skip)
    by_cases c32 : a1_0 > (l1_4.length : Int)
    ·rw [if_pos c32] at H
     have c32b0 : decide ((l1_4.length : Int) < a1_0) = true := decide_eq_true c32
     clear c32
     have H' := Aside0.mk H
     clear H
     obtain ⟨hcz33_0, hcz33_1, hcz33_2, hcz33_3, hcz33_4, hfz33_0, hfz33_1, hfz33_2, hfz33_3, hfz33_4⟩ := b5 BK150.out
     go_wp2
     repeat (go_quiet (fail); try go_wp2)
     go_meet
     case rel => exact ⟨_, (true), (by first | rfl | (simp; done) | (simp [*]; done)), H', ⟨by first | omega | exact Nat.le_refl _⟩, ⟨by exact zR HO0.out⟩, ⟨by exact zB <| BK150.out⟩, ⟨by repeat (first | (with_reducible first | exact HK.out | apply Kept.alloc | apply Kept.drewN | apply Kept.drew | refine Kept.setCell ?_ (.inr GW150.out) _) | exact HK.out)⟩, ⟨by repeat (first | (with_reducible first | exact HB.out | apply ba | apply bd | apply be | refine below_set ?_ GE150.out) | exact HB.out)⟩⟩
    ·rw [if_neg c32] at H
     have c32b0 : decide ((l1_4.length : Int) < a1_0) = false := decide_eq_false c32
     clear c32
     have H' := Aside0.mk H
     clear H
     obtain ⟨hcz34_0, hcz34_1, hcz34_2, hcz34_3, hcz34_4, hfz34_0, hfz34_1, hfz34_2, hfz34_3, hfz34_4⟩ := b5 BK150.out
     go_wp2
     repeat (go_quiet (fail); try go_wp2)
     go_meet
     case rel => exact ⟨_, ((!(a1_1.toList == ([] : List UInt8)) || ((!(a1_2 == 0) || (!(a1_3 == 0)))))), (by first | rfl | (simp; done) | (simp [*]; done)), H', ⟨by first | omega | exact Nat.le_refl _⟩, ⟨by exact zR HO0.out⟩, ⟨by exact zB <| BK150.out⟩, ⟨by repeat (first | (with_reducible first | exact HK.out | apply Kept.alloc | apply Kept.drewN | apply Kept.drew | refine Kept.setCell ?_ (.inr GW150.out) _) | exact HK.out)⟩, ⟨by repeat (first | (with_reducible first | exact HB.out | apply ba | apply bd | apply be | refine below_set ?_ GE150.out) | exact HB.out)⟩⟩
  case rest =>
   clear HC27
   try clear c1
   try clear p1
   try clear q1
   try clear hx1
   try clear c2
   try clear p2
   try clear c3
   try clear c3b0
   try clear c3b1
   try clear c3b2
   try clear c4
   try clear p6
   try clear c7
   try clear c7b0
   try clear c7b1
   try clear c9
   try clear c15
   try clear p15
   try clear q15
   try clear hx15
   try clear c16
   try clear c16b0
   try clear c17
   try clear c17b0
   try clear c18
   try clear c18b0
   try clear c18b1
   try clear c18b2
   try clear c23
   try clear c30
   try clear c30b0
   try clear c32
   try clear c32b0
   try clear hcz11_0
   try clear hcz11_1
   try clear hcz11_2
   try clear hcz11_3
   try clear hcz11_4
   try clear hcz13_0
   try clear hcz13_1
   try clear hcz13_2
   try clear hcz13_3
   try clear hcz13_4
   try clear hcz14_0
   try clear hcz14_1
   try clear hcz14_2
   try clear hcz14_3
   try clear hcz14_4
   try clear hcz20_0
   try clear hcz20_1
   try clear hcz20_2
   try clear hcz20_3
   try clear hcz20_4
   try clear hcz22_0
   try clear hcz22_1
   try clear hcz22_2
   try clear hcz22_3
   try clear hcz22_4
   try clear hcz25_0
   try clear hcz25_1
   try clear hcz25_2
   try clear hcz25_3
   try clear hcz25_4
   try clear hcz29_0
   try clear hcz29_1
   try clear hcz29_2
   try clear hcz29_3
   try clear hcz29_4
   try clear hcz31_0
   try clear hcz31_1
   try clear hcz31_2
   try clear hcz31_3
   try clear hcz31_4
   try clear hcz33_0
   try clear hcz33_1
   try clear hcz33_2
   try clear hcz33_3
   try clear hcz33_4
   try clear hcz34_0
   try clear hcz34_1
   try clear hcz34_2
   try clear hcz34_3
   try clear hcz34_4
   try clear hcz6_0
   try clear hcz6_1
   try clear hcz6_2
   try clear hcz6_3
   try clear hcz6_4
   try clear hfz11_0
   try clear hfz11_1
   try clear hfz11_2
   try clear hfz11_3
   try clear hfz11_4
   try clear hfz13_0
   try clear hfz13_1
   try clear hfz13_2
   try clear hfz13_3
   try clear hfz13_4
   try clear hfz14_0
   try clear hfz14_1
   try clear hfz14_2
   try clear hfz14_3
   try clear hfz14_4
   try clear hfz20_0
   try clear hfz20_1
   try clear hfz20_2
   try clear hfz20_3
   try clear hfz20_4
   try clear hfz22_0
   try clear hfz22_1
   try clear hfz22_2
   try clear hfz22_3
   try clear hfz22_4
   try clear hfz25_0
   try clear hfz25_1
   try clear hfz25_2
   try clear hfz25_3
   try clear hfz25_4
   try clear hfz29_0
   try clear hfz29_1
   try clear hfz29_2
   try clear hfz29_3
   try clear hfz29_4
   try clear hfz31_0
   try clear hfz31_1
   try clear hfz31_2
   try clear hfz31_3
   try clear hfz31_4
   try clear hfz33_0
   try clear hfz33_1
   try clear hfz33_2
   try clear hfz33_3
   try clear hfz33_4
   try clear hfz34_0
   try clear hfz34_1
   try clear hfz34_2
   try clear hfz34_3
   try clear hfz34_4
   try clear hfz6_0
   try clear hfz6_1
   try clear hfz6_2
   try clear hfz6_3
   try clear hfz6_4
   try clear hx153_0
   try clear hx153_1
   try clear hx153_2
   try clear p153
   try clear p2
   try clear q153
   obtain ⟨kq, x67_26, rfl, HA, HJ26, HO_0, BK150, HK, HB⟩ := hcut
   cases kq with
   | zero => exact absurd HA.out (by simp [clusterlocksref07_Add.j2])
   | succ kj26 =>
    have H := HA.out
    clear HA
    simp only [clusterlocksref07_Add.j2] at H
    by_cases c35 : x67_26 = true
    ·subst c35
     have H1 : (some (l0, false)) = some (r1, r2) := by rw [if_pos rfl] at H; exact H
     clear H
     have H := H1
     clear H1
     simp only [Option.some.injEq, Prod.mk.injEq] at H
     obtain ⟨rfl, rfl⟩ := H
     go_wp2
     repeat (go_quiet (fail); try go_wp2)
     go_ret2
     exact ⟨_, by first | rfl | (simp [errW_none, errW_some] <;> rfl) | (simp [*, errW_none, errW_some] <;> rfl), (by first | exact (zR HO_0.out) | exact fun _ => (zR HO_0.out)), by repeat (first | (with_reducible first | exact HB.out | apply ba | apply bd | apply be | refine below_set ?_ GE150.out) | exact HB.out), by repeat (first | (with_reducible first | exact HK.out | apply Kept.alloc | apply Kept.drewN | apply Kept.drew | refine Kept.setCell ?_ (.inr GW150.out) _) | exact HK.out)⟩
    ·replace c35 := Bool.eq_false_iff.mpr c35
     subst c35
     have H1 : (clusterlocksref07_Add.l1 kj26 l0 0 a1_0 a1_1 a1_2 a1_3 l1_4) = some (r1, r2) := by rw [if_neg (show ¬ (false = true) by decide)] at H; exact H
     clear H
     have H := H1
     clear H1
     have H' := Aside0.mk H
     clear H
     go_wp2
     repeat (go_quiet (fail); try go_wp2)
     go_loopg [0, 7] kj26 (fun kq v0 v7 w' => ∃ (x0_2 : List (S25)) (x7_2 : Int), v7 = .int .i64 x7_2 ∧ Aside0 (clusterlocksref07_Add.l1 kq x0_2 x7_2 a1_0 a1_1 a1_2 a1_3 l1_4 = some (r1, r2)) ∧ Aside0 (kq ≤ kj26) ∧ Aside0 (Kd.R k25 25 w' w0.heap.size (fun k_ => (P0_ k_ ∨ w.heap.size ≤ k_)) v0 x0_2) ∧ Aside0 (w'.heap[gb150]? = some (.cells #[.int .i64 a1_0, .string a1_1, .int .i64 a1_2, .int .i64 a1_3, (.slice A1_4 l1_4.length c1_4)] 28 (0, 0))) ∧ Aside0 (Kept w w' (fun k_ => P0_ k_)) ∧ Aside0 (Below w0.heap.size w0 w'))
     case atStart => exact ⟨(l0), (0), (by first | rfl | (simp; done) | (simp [*]; done)), H', ⟨Nat.le_refl _⟩, ⟨by exact zR HO_0.out⟩, ⟨by exact zB <| BK150.out⟩, ⟨by repeat (first | (with_reducible first | exact HK.out | apply Kept.alloc | apply Kept.drewN | apply Kept.drew | refine Kept.setCell ?_ (.inr GW150.out) _) | exact HK.out)⟩, ⟨by repeat (first | (with_reducible first | exact HB.out | apply ba | apply bd | apply be | refine below_set ?_ GE150.out) | exact HB.out)⟩⟩
     case round =>
      clear H'
      try clear c1
      try clear p1
      try clear q1
      try clear hx1
      try clear c2
      try clear p2
      try clear c3
      try clear c3b0
      try clear c3b1
      try clear c3b2
      try clear c4
      try clear p6
      try clear c7
      try clear c7b0
      try clear c7b1
      try clear c9
      try clear c15
      try clear p15
      try clear q15
      try clear hx15
      try clear c16
      try clear c16b0
      try clear c17
      try clear c17b0
      try clear c18
      try clear c18b0
      try clear c18b1
      try clear c18b2
      try clear c23
      try clear c30
      try clear c30b0
      try clear c32
      try clear c32b0
      try clear c35
      try clear hcz11_0
      try clear hcz11_1
      try clear hcz11_2
      try clear hcz11_3
      try clear hcz11_4
      try clear hcz13_0
      try clear hcz13_1
      try clear hcz13_2
      try clear hcz13_3
      try clear hcz13_4
      try clear hcz14_0
      try clear hcz14_1
      try clear hcz14_2
      try clear hcz14_3
      try clear hcz14_4
      try clear hcz20_0
      try clear hcz20_1
      try clear hcz20_2
      try clear hcz20_3
      try clear hcz20_4
      try clear hcz22_0
      try clear hcz22_1
      try clear hcz22_2
      try clear hcz22_3
      try clear hcz22_4
      try clear hcz25_0
      try clear hcz25_1
      try clear hcz25_2
      try clear hcz25_3
      try clear hcz25_4
      try clear hcz29_0
      try clear hcz29_1
      try clear hcz29_2
      try clear hcz29_3
      try clear hcz29_4
      try clear hcz31_0
      try clear hcz31_1
      try clear hcz31_2
      try clear hcz31_3
      try clear hcz31_4
      try clear hcz33_0
      try clear hcz33_1
      try clear hcz33_2
      try clear hcz33_3
      try clear hcz33_4
      try clear hcz34_0
      try clear hcz34_1
      try clear hcz34_2
      try clear hcz34_3
      try clear hcz34_4
      try clear hcz6_0
      try clear hcz6_1
      try clear hcz6_2
      try clear hcz6_3
      try clear hcz6_4
      try clear hfz11_0
      try clear hfz11_1
      try clear hfz11_2
      try clear hfz11_3
      try clear hfz11_4
      try clear hfz13_0
      try clear hfz13_1
      try clear hfz13_2
      try clear hfz13_3
      try clear hfz13_4
      try clear hfz14_0
      try clear hfz14_1
      try clear hfz14_2
      try clear hfz14_3
      try clear hfz14_4
      try clear hfz20_0
      try clear hfz20_1
      try clear hfz20_2
      try clear hfz20_3
      try clear hfz20_4
      try clear hfz22_0
      try clear hfz22_1
      try clear hfz22_2
      try clear hfz22_3
      try clear hfz22_4
      try clear hfz25_0
      try clear hfz25_1
      try clear hfz25_2
      try clear hfz25_3
      try clear hfz25_4
      try clear hfz29_0
      try clear hfz29_1
      try clear hfz29_2
      try clear hfz29_3
      try clear hfz29_4
      try clear hfz31_0
      try clear hfz31_1
      try clear hfz31_2
      try clear hfz31_3
      try clear hfz31_4
      try clear hfz33_0
      try clear hfz33_1
      try clear hfz33_2
      try clear hfz33_3
      try clear hfz33_4
      try clear hfz34_0
      try clear hfz34_1
      try clear hfz34_2
      try clear hfz34_3
      try clear hfz34_4
      try clear hfz6_0
      try clear hfz6_1
      try clear hfz6_2
      try clear hfz6_3
      try clear hfz6_4
      try clear hx153_0
      try clear hx153_1
      try clear hx153_2
      try clear p1
      try clear p15
      try clear p153
      try clear p2
      try clear p6
      try clear q1
      try clear q15
      try clear q153
      obtain ⟨x0_2, x7_2, rfl, HA, HK2, HO_0, BK150, HK, HB⟩ := hrel
      cases gk with
      | zero => exact absurd HA.out (by simp [clusterlocksref07_Add.l1])
      | succ k2 =>
       have H := HA.out
       clear HA
       simp only [clusterlocksref07_Add.l1] at H
       by_cases c36 : x7_2 < (l1_4.length : Int)
       ·rw [if_pos c36] at H
        have c36b0 : decide (x7_2 < (l1_4.length : Int)) = true := decide_eq_true c36
        clear c36
        by_cases c37 : 0 ≤ x7_2
        ·rw [if_pos c37] at H
         have c37b0 : decide (0 ≤ x7_2) = true := decide_eq_true c37
         clear c37
         replace H := Option.bind_eq_some_iff.mp H
         obtain ⟨⟨t158, t161⟩, A380, H⟩ := H
         replace H : (if t161 = true then (clusterlocksref07_Add.l1 k2 t158 (wrap64 (x7_2 + 1)) a1_0 a1_1 a1_2 a1_3 l1_4) else (some ([], false))) = some (r1, r2) := H
         have A38 := Aside0.mk A380
         clear A380
         by_cases c39 : t161 = true
         ·subst c39
          have H1 : (clusterlocksref07_Add.l1 k2 t158 (wrap64 (x7_2 + 1)) a1_0 a1_1 a1_2 a1_3 l1_4) = some (r1, r2) := by rw [if_pos rfl] at H; exact H
          clear H
          have H := H1
          clear H1
          have H' := Aside0.mk H
          clear H
          obtain ⟨hcz40_0, hcz40_1, hcz40_2, hcz40_3, hcz40_4, hfz40_0, hfz40_1, hfz40_2, hfz40_3, hfz40_4⟩ := b5 BK150.out
          have p157 : 0 ≤ (x7_2 : Int) := of_decide_eq_true (by first | (with_reducible assumption) | assumption)
          have q157 : x7_2 < (l1_4.length : Int) := of_decide_eq_true (by first | (with_reducible assumption) | assumption)
          obtain ⟨ad157, A157_4, c157_4, e157, hx157_0, hx157_1, hx157_2, hx157_3, hx157_4, hl157_4, hi157_4⟩ := at_T28 (Kd.C_kept_now HR1_4.out HK.out) x7_2 p157 q157
          cases e157
          have HR157_4 := am (Xw.foot_elemK HR1_4.out HK.out hx157_4 (fun W_ h_ => by obtain ⟨ad_, A_4, c_4, e_, hx_0, hx_1, hx_2, hx_3, hx_4, hl_4, hi_4⟩ := at_T28 h_ x7_2 p157 q157; cases e_; exact ⟨_, _, hx_4, hi_4⟩))
          have HC157_4 := Aside0.mk hl157_4
          clear hi157_4 hl157_4
          replace p157 := eq_true p157
          replace q157 := eq_true q157
          obtain ⟨Ao41, co41, eo41⟩ := Kd.R_slice HO_0.out
          subst eo41
          go_wp2_with (first | (go_at_call 43; (with_reducible refine (ih k2 (by have := HJ26.out; have := HK2.out; omega) (fun k_ => some k_ = (.slice Ao41 x0_2.length co41 : Value).ownBlock) (.slice Ao41 x0_2.length co41) x0_2 ((rd_T28 l1_4 x7_2).f0) ((rd_T28 l1_4 x7_2).f1.f0) ((rd_T28 l1_4 x7_2).f1.f1.f0) ((rd_T28 l1_4 x7_2).f1.f1.f1) _ _ ((rd_T28 l1_4 x7_2).f2) t158 true w0 _ ?side1 ?side2 ?side3 ?side4 A38.out).mono ?_); (case side1 => exact zL HB.out); (case side2 => exact Kd.R_tight rfl HO_0.out); (case side3 => exact Kd.C_kept_call HR157_4.out (zK HK.out) (fun k_ hs_ => (fun e_ => (HO_0.out.1 k_ e_.symm)) hs_)); (case side4 => exact HC157_4.out); rintro e w42 ⟨v159, rfl, ho0, hb, hkp⟩; replace ho0 := ho0 rfl; have n0_ := am (blk_kept (zB BK150.out) hkp (fun hs_ => (fun e_ => (Kd.R_ne HO_0.out BK150.out (by decide)) e_) hs_)); have n1_ := am (Kd.R_mono (ok' := fun k_ => (P0_ k_ ∨ w.heap.size ≤ k_)) ho0 (fun k_ hk_ => Or.elim hk_ (fun hs_ => (HO_0.out.1 k_ (hs_).symm)) (fun hn_ => (.inr (Nat.le_trans (by first | exact HK.out.1 | exact (show Kept w _ (fun k_ => P0_ k_) from zK HK.out).1) hn_))))); have n2_ := am (Kept.then_ (S := (fun k_ => P0_ k_)) (zK HK.out) hkp (fun k_ hs_ => (fun e_ => (HO_0.out.1 k_ e_.symm)) hs_)); have n3_ := am (hb); clear BK150 HK HB HO_0; have BK150 := n0_; have HO160 := n1_; have HK := n2_; have HB := n3_; clear n0_ n1_ n2_ n3_; (try clear hb); (try clear hkp); (try clear ho0)))
          repeat (go_quiet (first | (go_at_call 43; (with_reducible refine (ih k2 (by have := HJ26.out; have := HK2.out; omega) (fun k_ => some k_ = (.slice Ao41 x0_2.length co41 : Value).ownBlock) (.slice Ao41 x0_2.length co41) x0_2 ((rd_T28 l1_4 x7_2).f0) ((rd_T28 l1_4 x7_2).f1.f0) ((rd_T28 l1_4 x7_2).f1.f1.f0) ((rd_T28 l1_4 x7_2).f1.f1.f1) _ _ ((rd_T28 l1_4 x7_2).f2) t158 true w0 _ ?side1 ?side2 ?side3 ?side4 A38.out).mono ?_); (case side1 => exact zL HB.out); (case side2 => exact Kd.R_tight rfl HO_0.out); (case side3 => exact Kd.C_kept_call HR157_4.out (zK HK.out) (fun k_ hs_ => (fun e_ => (HO_0.out.1 k_ e_.symm)) hs_)); (case side4 => exact HC157_4.out); rintro e w42 ⟨v159, rfl, ho0, hb, hkp⟩; replace ho0 := ho0 rfl; have n0_ := am (blk_kept (zB BK150.out) hkp (fun hs_ => (fun e_ => (Kd.R_ne HO_0.out BK150.out (by decide)) e_) hs_)); have n1_ := am (Kd.R_mono (ok' := fun k_ => (P0_ k_ ∨ w.heap.size ≤ k_)) ho0 (fun k_ hk_ => Or.elim hk_ (fun hs_ => (HO_0.out.1 k_ (hs_).symm)) (fun hn_ => (.inr (Nat.le_trans (by first | exact HK.out.1 | exact (show Kept w _ (fun k_ => P0_ k_) from zK HK.out).1) hn_))))); have n2_ := am (Kept.then_ (S := (fun k_ => P0_ k_)) (zK HK.out) hkp (fun k_ hs_ => (fun e_ => (HO_0.out.1 k_ e_.symm)) hs_)); have n3_ := am (hb); clear BK150 HK HB HO_0; have BK150 := n0_; have HO160 := n1_; have HK := n2_; have HB := n3_; clear n0_ n1_ n2_ n3_; (try clear hb); (try clear hkp); (try clear ho0))); try go_wp2_with (first | (go_at_call 43; (with_reducible refine (ih k2 (by have := HJ26.out; have := HK2.out; omega) (fun k_ => some k_ = (.slice Ao41 x0_2.length co41 : Value).ownBlock) (.slice Ao41 x0_2.length co41) x0_2 ((rd_T28 l1_4 x7_2).f0) ((rd_T28 l1_4 x7_2).f1.f0) ((rd_T28 l1_4 x7_2).f1.f1.f0) ((rd_T28 l1_4 x7_2).f1.f1.f1) _ _ ((rd_T28 l1_4 x7_2).f2) t158 true w0 _ ?side1 ?side2 ?side3 ?side4 A38.out).mono ?_); (case side1 => exact zL HB.out); (case side2 => exact Kd.R_tight rfl HO_0.out); (case side3 => exact Kd.C_kept_call HR157_4.out (zK HK.out) (fun k_ hs_ => (fun e_ => (HO_0.out.1 k_ e_.symm)) hs_)); (case side4 => exact HC157_4.out); rintro e w42 ⟨v159, rfl, ho0, hb, hkp⟩; replace ho0 := ho0 rfl; have n0_ := am (blk_kept (zB BK150.out) hkp (fun hs_ => (fun e_ => (Kd.R_ne HO_0.out BK150.out (by decide)) e_) hs_)); have n1_ := am (Kd.R_mono (ok' := fun k_ => (P0_ k_ ∨ w.heap.size ≤ k_)) ho0 (fun k_ hk_ => Or.elim hk_ (fun hs_ => (HO_0.out.1 k_ (hs_).symm)) (fun hn_ => (.inr (Nat.le_trans (by first | exact HK.out.1 | exact (show Kept w _ (fun k_ => P0_ k_) from zK HK.out).1) hn_))))); have n2_ := am (Kept.then_ (S := (fun k_ => P0_ k_)) (zK HK.out) hkp (fun k_ hs_ => (fun e_ => (HO_0.out.1 k_ e_.symm)) hs_)); have n3_ := am (hb); clear BK150 HK HB HO_0; have BK150 := n0_; have HO160 := n1_; have HK := n2_; have HB := n3_; clear n0_ n1_ n2_ n3_; (try clear hb); (try clear hkp); (try clear ho0))))
          go_roundg k2
          case measure => have := HJ26.out; have := HK2.out; omega
          case rel => exact ⟨(t158), (wrap64 (x7_2 + 1)), (by first | rfl | (simp; done) | (simp [*]; done)), H', ⟨by have := HJ26.out; have := HK2.out; omega⟩, ⟨by exact zR HO160.out⟩, ⟨by exact zB <| BK150.out⟩, ⟨by repeat (first | (with_reducible first | exact HK.out | apply Kept.alloc | apply Kept.drewN | apply Kept.drew | refine Kept.setCell ?_ (.inr GW150.out) _) | exact HK.out)⟩, ⟨by repeat (first | (with_reducible first | exact HB.out | apply ba | apply bd | apply be | refine below_set ?_ GE150.out) | exact HB.out)⟩⟩
         ·replace c39 := Bool.eq_false_iff.mpr c39
          subst c39
          have H1 : (some ([], false)) = some (r1, r2) := by rw [if_neg (show ¬ (false = true) by decide)] at H; exact H
          clear H
          have H := H1
          clear H1
          simp only [Option.some.injEq, Prod.mk.injEq] at H
          obtain ⟨rfl, rfl⟩ := H
          obtain ⟨hcz43_0, hcz43_1, hcz43_2, hcz43_3, hcz43_4, hfz43_0, hfz43_1, hfz43_2, hfz43_3, hfz43_4⟩ := b5 BK150.out
          have p157 : 0 ≤ (x7_2 : Int) := of_decide_eq_true (by first | (with_reducible assumption) | assumption)
          have q157 : x7_2 < (l1_4.length : Int) := of_decide_eq_true (by first | (with_reducible assumption) | assumption)
          obtain ⟨ad157, A157_4, c157_4, e157, hx157_0, hx157_1, hx157_2, hx157_3, hx157_4, hl157_4, hi157_4⟩ := at_T28 (Kd.C_kept_now HR1_4.out HK.out) x7_2 p157 q157
          cases e157
          have HR157_4 := am (Xw.foot_elemK HR1_4.out HK.out hx157_4 (fun W_ h_ => by obtain ⟨ad_, A_4, c_4, e_, hx_0, hx_1, hx_2, hx_3, hx_4, hl_4, hi_4⟩ := at_T28 h_ x7_2 p157 q157; cases e_; exact ⟨_, _, hx_4, hi_4⟩))
          have HC157_4 := Aside0.mk hl157_4
          clear hi157_4 hl157_4
          replace p157 := eq_true p157
          replace q157 := eq_true q157
          obtain ⟨Ao44, co44, eo44⟩ := Kd.R_slice HO_0.out
          subst eo44
          go_wp2_with (first | (go_at_call 43; (with_reducible refine (ih k2 (by have := HJ26.out; have := HK2.out; omega) (fun k_ => some k_ = (.slice Ao44 x0_2.length co44 : Value).ownBlock) (.slice Ao44 x0_2.length co44) x0_2 ((rd_T28 l1_4 x7_2).f0) ((rd_T28 l1_4 x7_2).f1.f0) ((rd_T28 l1_4 x7_2).f1.f1.f0) ((rd_T28 l1_4 x7_2).f1.f1.f1) _ _ ((rd_T28 l1_4 x7_2).f2) t158 false w0 _ ?side1 ?side2 ?side3 ?side4 A38.out).mono ?_); (case side1 => exact zL HB.out); (case side2 => exact Kd.R_tight rfl HO_0.out); (case side3 => exact Kd.C_kept_call HR157_4.out (zK HK.out) (fun k_ hs_ => (fun e_ => (HO_0.out.1 k_ e_.symm)) hs_)); (case side4 => exact HC157_4.out); rintro e w45 ⟨v159, rfl, _, hb, hkp⟩; have n0_ := am (blk_kept (zB BK150.out) hkp (fun hs_ => (fun e_ => (Kd.R_ne HO_0.out BK150.out (by decide)) e_) hs_)); have n1_ := am (Kept.then_ (S := (fun k_ => P0_ k_)) (zK HK.out) hkp (fun k_ hs_ => (fun e_ => (HO_0.out.1 k_ e_.symm)) hs_)); have n2_ := am (hb); clear BK150 HK HB HO_0; have BK150 := n0_; have HK := n1_; have HB := n2_; clear n0_ n1_ n2_; (try clear hb); (try clear hkp)))
          repeat (go_quiet (first | (go_at_call 43; (with_reducible refine (ih k2 (by have := HJ26.out; have := HK2.out; omega) (fun k_ => some k_ = (.slice Ao44 x0_2.length co44 : Value).ownBlock) (.slice Ao44 x0_2.length co44) x0_2 ((rd_T28 l1_4 x7_2).f0) ((rd_T28 l1_4 x7_2).f1.f0) ((rd_T28 l1_4 x7_2).f1.f1.f0) ((rd_T28 l1_4 x7_2).f1.f1.f1) _ _ ((rd_T28 l1_4 x7_2).f2) t158 false w0 _ ?side1 ?side2 ?side3 ?side4 A38.out).mono ?_); (case side1 => exact zL HB.out); (case side2 => exact Kd.R_tight rfl HO_0.out); (case side3 => exact Kd.C_kept_call HR157_4.out (zK HK.out) (fun k_ hs_ => (fun e_ => (HO_0.out.1 k_ e_.symm)) hs_)); (case side4 => exact HC157_4.out); rintro e w45 ⟨v159, rfl, _, hb, hkp⟩; have n0_ := am (blk_kept (zB BK150.out) hkp (fun hs_ => (fun e_ => (Kd.R_ne HO_0.out BK150.out (by decide)) e_) hs_)); have n1_ := am (Kept.then_ (S := (fun k_ => P0_ k_)) (zK HK.out) hkp (fun k_ hs_ => (fun e_ => (HO_0.out.1 k_ e_.symm)) hs_)); have n2_ := am (hb); clear BK150 HK HB HO_0; have BK150 := n0_; have HK := n1_; have HB := n2_; clear n0_ n1_ n2_; (try clear hb); (try clear hkp))); try go_wp2_with (first | (go_at_call 43; (with_reducible refine (ih k2 (by have := HJ26.out; have := HK2.out; omega) (fun k_ => some k_ = (.slice Ao44 x0_2.length co44 : Value).ownBlock) (.slice Ao44 x0_2.length co44) x0_2 ((rd_T28 l1_4 x7_2).f0) ((rd_T28 l1_4 x7_2).f1.f0) ((rd_T28 l1_4 x7_2).f1.f1.f0) ((rd_T28 l1_4 x7_2).f1.f1.f1) _ _ ((rd_T28 l1_4 x7_2).f2) t158 false w0 _ ?side1 ?side2 ?side3 ?side4 A38.out).mono ?_); (case side1 => exact zL HB.out); (case side2 => exact Kd.R_tight rfl HO_0.out); (case side3 => exact Kd.C_kept_call HR157_4.out (zK HK.out) (fun k_ hs_ => (fun e_ => (HO_0.out.1 k_ e_.symm)) hs_)); (case side4 => exact HC157_4.out); rintro e w45 ⟨v159, rfl, _, hb, hkp⟩; have n0_ := am (blk_kept (zB BK150.out) hkp (fun hs_ => (fun e_ => (Kd.R_ne HO_0.out BK150.out (by decide)) e_) hs_)); have n1_ := am (Kept.then_ (S := (fun k_ => P0_ k_)) (zK HK.out) hkp (fun k_ hs_ => (fun e_ => (HO_0.out.1 k_ e_.symm)) hs_)); have n2_ := am (hb); clear BK150 HK HB HO_0; have BK150 := n0_; have HK := n1_; have HB := n2_; clear n0_ n1_ n2_; (try clear hb); (try clear hkp))))
          go_ret2
          exact ⟨_, by first | rfl | (simp [errW_none, errW_some] <;> rfl) | (simp [*, errW_none, errW_some] <;> rfl), fun h_ => absurd h_ (by decide), by repeat (first | (with_reducible first | exact HB.out | apply ba | apply bd | apply be | refine below_set ?_ GE150.out) | exact HB.out), by repeat (first | (with_reducible first | exact HK.out | apply Kept.alloc | apply Kept.drewN | apply Kept.drew | refine Kept.setCell ?_ (.inr GW150.out) _) | exact HK.out)⟩
        ·rw [if_neg c37] at H
         exact absurd H (by simp)
       ·rw [if_neg c36] at H
        have c36b0 : decide (x7_2 < (l1_4.length : Int)) = false := decide_eq_false c36
        clear c36
        simp only [Option.some.injEq, Prod.mk.injEq] at H
        obtain ⟨rfl, rfl⟩ := H
        obtain ⟨hcz46_0, hcz46_1, hcz46_2, hcz46_3, hcz46_4, hfz46_0, hfz46_1, hfz46_2, hfz46_3, hfz46_4⟩ := b5 BK150.out
        go_wp2
        repeat (go_quiet (fail); try go_wp2)
        go_ret2
        exact ⟨_, by first | rfl | (simp [errW_none, errW_some] <;> rfl) | (simp [*, errW_none, errW_some] <;> rfl), (by first | exact (zR HO_0.out) | exact fun _ => (zR HO_0.out)), by repeat (first | (with_reducible first | exact HB.out | apply ba | apply bd | apply be | refine below_set ?_ GE150.out) | exact HB.out), by repeat (first | (with_reducible first | exact HK.out | apply Kept.alloc | apply Kept.drewN | apply Kept.drew | refine Kept.setCell ?_ (.inr GW150.out) _) | exact HK.out)⟩

end Go.Proofs.Ytefbcebpokoinaa.Y

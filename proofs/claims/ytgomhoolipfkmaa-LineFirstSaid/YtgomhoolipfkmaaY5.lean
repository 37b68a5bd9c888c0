-- Laid by a program of this session's (xprint.py, which runs the kit's print.py with patches of its own). Lean checks it.
import Derived.Test.YtgomhoolipfkmaaY0
import Derived.Test.YtgomhoolipfkmaaY3
import Derived.Test.YtgomhoolipfkmaaY4
namespace Go.Proofs.Ytgomhoolipfkmaa.Y
open Go.RowKit Go.Proofs.YtgomhoolipfkmaaW.PrintWords Go.Proofs.YtgomhoolipfkmaaW.PrintLast Go.Proofs.YtgomhoolipfkmaaW.PrintMore
attribute [local go_sem] max2_int min2_int max_two min_two max_three min_three max_four min_four   -- for this text's walks alone
set_option linter.unusedVariables false
set_option linter.unusedSimpArgs false

/-! ### line_Insert: function 15 -/
mutual
def line_Insert.j0 : Nat → List (S28) → Bool → Int → Int → Int → Int → Int → Int → Int → Option ((List (S28)) × Int × Int)
 | 0, _, _, _, _, _, _, _, _, _ => none
 | k + 1, x0, x19, x123000, x123001, x123002, x123003, x123004, x123005, x123006 => if x19 = true then (some (([] : List (S28)), 0, 1)) else ((line_Find.f x0 x123000 x123001 x123002).bind fun t125 => (if t125 ≥ 0 then (some (([] : List (S28)), 0, 11)) else (if (x0.length : Int) = 8 then (some (([] : List (S28)), 0, 4)) else ((api_Wait_35.f x0).bind fun t126 => ((some (([(⟨(⟨x123000, x123001, x123002⟩ : S24), (⟨x123003, x123004⟩ : S26), x123005, x123006⟩ : S28)] : List (S28)) : List (S28))).bind fun y129 => (if t126.length + y129.length < 2513169434916 then (line_Insert.l0 k (t126 ++ y129) (x0.length : Int) x123000 x123001 x123002 x123003 x123004 x123005 x123006) else (none)))))))
def line_Insert.l0 : Nat → List (S28) → Int → Int → Int → Int → Int → Int → Int → Int → Option ((List (S28)) × Int × Int)
 | 0, _, _, _, _, _, _, _, _, _ => none
 | k + 1, x7, x8, x123000, x123001, x123002, x123003, x123004, x123005, x123006 => if x8 > 0 then (if 0 ≤ (wrap64 (x8 - 1)) then (if (wrap64 (x8 - 1)) < (x7.length : Int) then ((line_meet.f x123000 x123001 x123002 x123003 x123004 x123005 x123006 ((rd_T28 x7 (wrap64 (x8 - 1))).f0.f0) ((rd_T28 x7 (wrap64 (x8 - 1))).f0.f1) ((rd_T28 x7 (wrap64 (x8 - 1))).f0.f2) ((rd_T28 x7 (wrap64 (x8 - 1))).f1.f0) ((rd_T28 x7 (wrap64 (x8 - 1))).f1.f1) ((rd_T28 x7 (wrap64 (x8 - 1))).f2) ((rd_T28 x7 (wrap64 (x8 - 1))).f3)).bind fun t136 => (if t136 = 1 then (if 0 ≤ x8 then (if x8 < (x7.length : Int) then ((some (x7.set (x8 : Int).toNat (⟨(⟨(rd_T28 x7 (wrap64 (x8 - 1))).f0.f0, (rd_T28 x7 (wrap64 (x8 - 1))).f0.f1, (rd_T28 x7 (wrap64 (x8 - 1))).f0.f2⟩ : S24), (⟨(rd_T28 x7 (wrap64 (x8 - 1))).f1.f0, (rd_T28 x7 (wrap64 (x8 - 1))).f1.f1⟩ : S26), (rd_T28 x7 (wrap64 (x8 - 1))).f2, (rd_T28 x7 (wrap64 (x8 - 1))).f3⟩ : S28) : List (S28))).bind fun y138 => (line_Insert.l0 k (y138.set (x8 : Int).toNat (⟨(⟨(rd_T28 y138 x8).f0.f0, (rd_T28 y138 x8).f0.f1, (rd_T28 y138 x8).f0.f2⟩ : S24), (⟨(rd_T28 y138 x8).f1.f0, (rd_T28 y138 x8).f1.f1⟩ : S26), (rd_T28 y138 x8).f2, wrap64 (((rd_T28 y138 x8).f3) + 1)⟩ : S28)) (wrap64 (x8 - 1)) x123000 x123001 x123002 x123003 x123004 x123005 x123006)) else (none)) else (none)) else (if 0 ≤ x8 then (if x8 < (x7.length : Int) then (some ((x7.set (x8 : Int).toNat (⟨(⟨x123000, x123001, x123002⟩ : S24), (⟨x123003, x123004⟩ : S26), x123005, x123006⟩ : S28)), x8, 0)) else (none)) else (none)))) else (none)) else (none)) else (if 0 ≤ x8 then (if x8 < (x7.length : Int) then (some ((x7.set (x8 : Int).toNat (⟨(⟨x123000, x123001, x123002⟩ : S24), (⟨x123003, x123004⟩ : S26), x123005, x123006⟩ : S28)), x8, 0)) else (none)) else (none))
end
def line_Insert.f (k : Nat) (l0 : List (S28)) (a1_0 : Int) (a1_1 : Int) (a1_2 : Int) (a1_3 : Int) (a1_4 : Int) (a1_5 : Int) (a1_6 : Int) : Option ((List (S28)) × Int × Int) := (line_Valid.f k l0).bind fun t123 => (if t123 = true then ((line_ValidWait.f a1_0 a1_1 a1_2 a1_3 a1_4 a1_5 a1_6).bind fun t124 => (if t124 = true then (line_Insert.j0 k l0 (a1_6 != 0) a1_0 a1_1 a1_2 a1_3 a1_4 a1_5 a1_6) else (line_Insert.j0 k l0 true a1_0 a1_1 a1_2 a1_3 a1_4 a1_5 a1_6))) else (some (([] : List (S28)), 0, 2)))
theorem line_Insert.mono_l : ∀ k, (∀ y0 y1 y2 y3 y4 y5 y6 y7 y8, LeO (line_Insert.j0 k y0 y1 y2 y3 y4 y5 y6 y7 y8) (line_Insert.j0 (k + 1) y0 y1 y2 y3 y4 y5 y6 y7 y8)) ∧ (∀ y0 y1 y2 y3 y4 y5 y6 y7 y8, LeO (line_Insert.l0 k y0 y1 y2 y3 y4 y5 y6 y7 y8) (line_Insert.l0 (k + 1) y0 y1 y2 y3 y4 y5 y6 y7 y8))
 | 0 => ⟨fun _ _ _ _ _ _ _ _ _ r h => by simp [line_Insert.j0] at h, fun _ _ _ _ _ _ _ _ _ r h => by simp [line_Insert.l0] at h⟩
 | k + 1 => by
  obtain ⟨ih0, ih1⟩ := line_Insert.mono_l k
  refine ⟨?_, ?_⟩
  ·intro y0 y1 y2 y3 y4 y5 y6 y7 y8
   unfold line_Insert.j0
   repeat' first
   | (with_reducible exact ih0 _ _ _ _ _ _ _ _ _)
   | (with_reducible exact ih1 _ _ _ _ _ _ _ _ _)
   | (with_reducible exact line_Valid.mono _ _)
   | (with_reducible exact LeO.refl _)
   | (with_reducible exact LeO.none _)
   | (with_reducible refine LeO.ite ?_ ?_)
   | (with_reducible refine LeO.bind ?_ (fun _ => ?_))
   | exact ih0 _ _ _ _ _ _ _ _ _
   | exact ih1 _ _ _ _ _ _ _ _ _
   | exact line_Valid.mono _ _
   | exact LeO.none _
   | refine LeO.ite ?_ ?_
   | refine LeO.bind ?_ (fun _ => ?_)
  ·intro y0 y1 y2 y3 y4 y5 y6 y7 y8
   unfold line_Insert.l0
   repeat' first
   | (with_reducible exact ih0 _ _ _ _ _ _ _ _ _)
   | (with_reducible exact ih1 _ _ _ _ _ _ _ _ _)
   | (with_reducible exact line_Valid.mono _ _)
   | (with_reducible exact LeO.refl _)
   | (with_reducible exact LeO.none _)
   | (with_reducible refine LeO.ite ?_ ?_)
   | (with_reducible refine LeO.bind ?_ (fun _ => ?_))
   | exact ih0 _ _ _ _ _ _ _ _ _
   | exact ih1 _ _ _ _ _ _ _ _ _
   | exact line_Valid.mono _ _
   | exact LeO.none _
   | refine LeO.ite ?_ ?_
   | refine LeO.bind ?_ (fun _ => ?_)
theorem line_Insert.mono : ∀ a0 a1 a2 a3 a4 a5 a6 a7 k, LeO (line_Insert.f k a0 a1 a2 a3 a4 a5 a6 a7) (line_Insert.f (k + 1) a0 a1 a2 a3 a4 a5 a6 a7) := by
 intro a0 a1 a2 a3 a4 a5 a6 a7 k
 obtain ⟨ih0, ih1⟩ := line_Insert.mono_l k
 unfold line_Insert.f
 repeat' first
   | (with_reducible exact ih0 _ _ _ _ _ _ _ _ _)
   | (with_reducible exact ih1 _ _ _ _ _ _ _ _ _)
   | (with_reducible exact line_Valid.mono _ _)
   | (with_reducible exact LeO.refl _)
   | (with_reducible exact LeO.none _)
   | (with_reducible refine LeO.ite ?_ ?_)
   | (with_reducible refine LeO.bind ?_ (fun _ => ?_))
   | exact ih0 _ _ _ _ _ _ _ _ _
   | exact ih1 _ _ _ _ _ _ _ _ _
   | exact line_Valid.mono _ _
   | exact LeO.none _
   | refine LeO.ite ?_ ?_
   | refine LeO.bind ?_ (fun _ => ?_)
def line_Insert.T11 : Bool × List (List Nat × List Nat) := (true, [([], []), ([0], [0]), ([1], [1]), ([2], [2]), ([2], [2]), ([2], [2]), ([5, 2], [2, 5]), ([4, 6, 2], [2, 4, 6]), ([7, 2], [2, 7]), ([3, 8, 2, 2], [2, 3, 8]), ([9, 2], [2, 9]), ([2, 10], [2, 10])])
def line_Insert.B11 : List Nat := [0, 1, 3, 7, 7, 7, 39, 119, 247, 511, 1023, 2047]
theorem line_Insert.tab11 : rtab .any (opsOf Try.f15 11) = line_Insert.T11 := by kernel_rfl
theorem line_Insert.bits11 : waitsOk line_Insert.T11.2 line_Insert.B11 = true := by kernel_rfl
set_option maxHeartbeats 8000000 in
set_option maxRecDepth 100000 in
theorem line_Insert.calls (k : Nat) (A0 : Option Addr) (c0 : Nat) (l0 : List (S28)) (a1_0 : Int) (a1_1 : Int) (a1_2 : Int) (a1_3 : Int) (a1_4 : Int) (a1_5 : Int) (a1_6 : Int) (r1 : List (S28)) (r2 : Int) (r3 : Int) (w : World) (hr0 : Kd.C k28 w A0 l0.length l0) (hc0 : l0.length ≤ c0) (h : line_Insert.f k l0 a1_0 a1_1 a1_2 a1_3 a1_4 a1_5 a1_6 = some (r1, r2, r3)) :
  Calls Try.prog 15 #[.slice A0 l0.length c0, .agg #[.int .i64 a1_0, .int .i64 a1_1, .int .i64 a1_2, .int .i64 a1_3, .int .i64 a1_4, .int .i64 a1_5, .int .i64 a1_6]] w fun e w' => ∃ v0_ : Value, e = .returned (.tuple #[v0_, .int .i64 r2, .int .i64 r3]) ∧ Kd.R k28 28 w' w.heap.size (fun _ => True) v0_ r1 ∧ Below w.heap.size w w' := by
 have hu28 := Try.underlying28
 have hu24 := Try.underlying24
 have HR0 := Aside0.mk hr0
 have HC0 := Aside0.mk hc0
 clear hr0 hc0
 have HB := am (Below.refl w.heap.size w)
 have H : ((line_Valid.f k l0).bind fun t123 => (if t123 = true then ((line_ValidWait.f a1_0 a1_1 a1_2 a1_3 a1_4 a1_5 a1_6).bind fun t124 => (if t124 = true then (line_Insert.j0 k l0 (a1_6 != 0) a1_0 a1_1 a1_2 a1_3 a1_4 a1_5 a1_6) else (line_Insert.j0 k l0 true a1_0 a1_1 a1_2 a1_3 a1_4 a1_5 a1_6))) else (some (([] : List (S28)), 0, 2)))) = some (r1, r2, r3) := h
 clear h
 replace H := Option.bind_eq_some_iff.mp H
 obtain ⟨t123, A30, H⟩ := H
 replace H : (if t123 = true then ((line_ValidWait.f a1_0 a1_1 a1_2 a1_3 a1_4 a1_5 a1_6).bind fun t124 => (if t124 = true then (line_Insert.j0 k l0 (a1_6 != 0) a1_0 a1_1 a1_2 a1_3 a1_4 a1_5 a1_6) else (line_Insert.j0 k l0 true a1_0 a1_1 a1_2 a1_3 a1_4 a1_5 a1_6))) else (some (([] : List (S28)), 0, 2))) = some (r1, r2, r3) := H
 have A3 := Aside0.mk A30
 clear A30
 by_cases c4 : t123 = true
 ·subst c4
  have H1 : ((line_ValidWait.f a1_0 a1_1 a1_2 a1_3 a1_4 a1_5 a1_6).bind fun t124 => (if t124 = true then (line_Insert.j0 k l0 (a1_6 != 0) a1_0 a1_1 a1_2 a1_3 a1_4 a1_5 a1_6) else (line_Insert.j0 k l0 true a1_0 a1_1 a1_2 a1_3 a1_4 a1_5 a1_6))) = some (r1, r2, r3) := by rw [if_pos rfl] at H; exact H
  clear H
  have H := H1
  clear H1
  have HC5 := Aside0.mk H
  clear H
  go_enter Try.func15, Try.ntmps15
  go_upto_region 3 with (first | ((with_reducible refine gate_dst (N := 3) rfl ?_); refine box_event ?hg (N := 3) ?hd (cs := #[.int .i64 a1_0, .int .i64 a1_1, .int .i64 a1_2, .int .i64 a1_3, .int .i64 a1_4, .int .i64 a1_5, .int .i64 a1_6]) (t := 28) ?hr ?_; (case hd => rfl); (case hg => rfl); (case hr => first | (go_simp; done) | (go_simp; rfl)); intro gb122 hg w6 hbox hb; have n0_ := am (below_step (zL HB.out) hb); have n1_ := am (hbox); have n2_ := am (zS hg HB.out); have n3_ := am (zS hg HB.out); clear HB; have HB := n0_; have BK122 := n1_; have GW122 := n2_; have GE122 := n3_; clear n0_ n1_ n2_ n3_; clear hb hbox hg) | ((with_reducible refine gate_callee (f := 13) rfl ?_); refine goesL_ (some 10) rfl rfl Try.func13 (by kernel_rfl) rfl #[.slice A0 l0.length c0] rfl (by (try simp only [List.map_toArray, List.map_cons, List.map_nil]); first | done | rfl | (simp only [List.length_drop, List.length_take]; rfl)) ?_; (with_reducible refine (line_Valid.calls k _ _ l0 true _ ?side1 ?side2 A3.out).mono ?_); (case side1 => exact zC (Kd.C_below HR0.out HB.out)); (case side2 => exact HC0.out); rintro e w7 ⟨rfl, hb⟩; refine ⟨_, rfl, ?_⟩; have n0_ := am (blk_below (zB BK122.out) hb); have n1_ := am (below_step (zL HB.out) hb); clear BK122 HB; have BK122 := n0_; have HB := n1_; clear n0_ n1_; (try clear hb); (try clear hb2); (try clear hk); (try clear hi)))
  (try simp only [Act.put, List.setIfInBounds_toArray, List.set_cons_zero, List.set_cons_succ])
  go_cut [19] (fun v19 wc => ∃ (kq : Nat) (x19_4 : Bool), v19 = .bool x19_4 ∧ Aside0 (line_Insert.j0 kq l0 x19_4 a1_0 a1_1 a1_2 a1_3 a1_4 a1_5 a1_6 = some (r1, r2, r3)) ∧ Aside0 (kq ≤ k) ∧ Aside0 (wc.heap[gb122]? = some (.cells #[.int .i64 a1_0, .int .i64 a1_1, .int .i64 a1_2, .int .i64 a1_3, .int .i64 a1_4, .int .i64 a1_5, .int .i64 a1_6] 28 (0, 0))) ∧ Aside0 (Below w.heap.size w wc))
  case first =>
   have H := HC5.out
   clear HC5
   replace H := Option.bind_eq_some_iff.mp H
   obtain ⟨t124, A80, H⟩ := H
   replace H : (if t124 = true then (line_Insert.j0 k l0 (a1_6 != 0) a1_0 a1_1 a1_2 a1_3 a1_4 a1_5 a1_6) else (line_Insert.j0 k l0 true a1_0 a1_1 a1_2 a1_3 a1_4 a1_5 a1_6)) = some (r1, r2, r3) := H
   have A8 := Aside0.mk A80
   clear A80
   by_cases c9 : t124 = true
   ·subst c9
    have H1 : (line_Insert.j0 k l0 (a1_6 != 0) a1_0 a1_1 a1_2 a1_3 a1_4 a1_5 a1_6) = some (r1, r2, r3) := by rw [if_pos rfl] at H; exact H
    clear H
    have H := H1
    clear H1
    have H' := Aside0.mk H
    clear H
    have hcz10_0 : w7.cell? ⟨gb122, 0, none⟩ = some (.int .i64 a1_0) := (blk_cell BK122.out 0).trans rfl
    have hcz10_1 : w7.cell? ⟨gb122, 1, none⟩ = some (.int .i64 a1_1) := (blk_cell BK122.out 1).trans rfl
    have hcz10_2 : w7.cell? ⟨gb122, 2, none⟩ = some (.int .i64 a1_2) := (blk_cell BK122.out 2).trans rfl
    have hcz10_3 : w7.cell? ⟨gb122, 3, none⟩ = some (.int .i64 a1_3) := (blk_cell BK122.out 3).trans rfl
    have hcz10_4 : w7.cell? ⟨gb122, 4, none⟩ = some (.int .i64 a1_4) := (blk_cell BK122.out 4).trans rfl
    have hcz10_5 : w7.cell? ⟨gb122, 5, none⟩ = some (.int .i64 a1_5) := (blk_cell BK122.out 5).trans rfl
    have hcz10_6 : w7.cell? ⟨gb122, 6, none⟩ = some (.int .i64 a1_6) := (blk_cell BK122.out 6).trans rfl
    have hfz10_0 := blk_frozen BK122.out 0
    have hfz10_1 := blk_frozen BK122.out 1
    have hfz10_2 := blk_frozen BK122.out 2
    have hfz10_3 := blk_frozen BK122.out 3
    have hfz10_4 := blk_frozen BK122.out 4
    have hfz10_5 := blk_frozen BK122.out 5
    have hfz10_6 := blk_frozen BK122.out 6
    go_wp2_with (first | ((with_reducible refine gate_callee (f := 11) rfl ?_); refine goesL_ (some 13) rfl rfl Try.func11 (by kernel_rfl) rfl #[.agg #[.int .i64 a1_0, .int .i64 a1_1, .int .i64 a1_2, .int .i64 a1_3, .int .i64 a1_4, .int .i64 a1_5, .int .i64 a1_6]] rfl (by (try simp only [List.map_toArray, List.map_cons, List.map_nil]); first | done | rfl | (simp only [List.length_drop, List.length_take]; rfl)) ?_; (with_reducible refine (line_ValidWait.calls a1_0 a1_1 a1_2 a1_3 a1_4 a1_5 a1_6 true _ A8.out).mono ?_); rintro e w11 ⟨rfl, hb⟩; refine ⟨_, rfl, ?_⟩; have n0_ := am (blk_below (zB BK122.out) hb); have n1_ := am (below_step (zL HB.out) hb); clear BK122 HB; have BK122 := n0_; have HB := n1_; clear n0_ n1_; (try clear hb); (try clear hb2); (try clear hk); (try clear hi); have hcz12_0 : w11.cell? ⟨gb122, 0, none⟩ = some (.int .i64 a1_0) := (blk_cell BK122.out 0).trans rfl; have hcz12_1 : w11.cell? ⟨gb122, 1, none⟩ = some (.int .i64 a1_1) := (blk_cell BK122.out 1).trans rfl; have hcz12_2 : w11.cell? ⟨gb122, 2, none⟩ = some (.int .i64 a1_2) := (blk_cell BK122.out 2).trans rfl; have hcz12_3 : w11.cell? ⟨gb122, 3, none⟩ = some (.int .i64 a1_3) := (blk_cell BK122.out 3).trans rfl; have hcz12_4 : w11.cell? ⟨gb122, 4, none⟩ = some (.int .i64 a1_4) := (blk_cell BK122.out 4).trans rfl; have hcz12_5 : w11.cell? ⟨gb122, 5, none⟩ = some (.int .i64 a1_5) := (blk_cell BK122.out 5).trans rfl; have hcz12_6 : w11.cell? ⟨gb122, 6, none⟩ = some (.int .i64 a1_6) := (blk_cell BK122.out 6).trans rfl; have hfz12_0 := blk_frozen BK122.out 0; have hfz12_1 := blk_frozen BK122.out 1; have hfz12_2 := blk_frozen BK122.out 2; have hfz12_3 := blk_frozen BK122.out 3; have hfz12_4 := blk_frozen BK122.out 4; have hfz12_5 := blk_frozen BK122.out 5; have hfz12_6 := blk_frozen BK122.out 6))
    go_meet
    case rel => exact ⟨_, ((a1_6 != 0)), (by first | rfl | (simp; done) | (simp [*]; done)), H', ⟨by first | omega | exact Nat.le_refl _⟩, ⟨by exact zB <| BK122.out⟩, ⟨by repeat (first | (with_reducible first | exact HB.out | apply ba | apply bd | apply be | refine below_set ?_ GE122.out) | exact HB.out)⟩⟩
   ·replace c9 := Bool.eq_false_iff.mpr c9
    subst c9
    have H1 : (line_Insert.j0 k l0 true a1_0 a1_1 a1_2 a1_3 a1_4 a1_5 a1_6) = some (r1, r2, r3) := by rw [if_neg (show ¬ (false = true) by decide)] at H; exact H
    clear H
    have H := H1
    clear H1
    have H' := Aside0.mk H
    clear H
    have hcz13_0 : w7.cell? ⟨gb122, 0, none⟩ = some (.int .i64 a1_0) := (blk_cell BK122.out 0).trans rfl
    have hcz13_1 : w7.cell? ⟨gb122, 1, none⟩ = some (.int .i64 a1_1) := (blk_cell BK122.out 1).trans rfl
    have hcz13_2 : w7.cell? ⟨gb122, 2, none⟩ = some (.int .i64 a1_2) := (blk_cell BK122.out 2).trans rfl
    have hcz13_3 : w7.cell? ⟨gb122, 3, none⟩ = some (.int .i64 a1_3) := (blk_cell BK122.out 3).trans rfl
    have hcz13_4 : w7.cell? ⟨gb122, 4, none⟩ = some (.int .i64 a1_4) := (blk_cell BK122.out 4).trans rfl
    have hcz13_5 : w7.cell? ⟨gb122, 5, none⟩ = some (.int .i64 a1_5) := (blk_cell BK122.out 5).trans rfl
    have hcz13_6 : w7.cell? ⟨gb122, 6, none⟩ = some (.int .i64 a1_6) := (blk_cell BK122.out 6).trans rfl
    have hfz13_0 := blk_frozen BK122.out 0
    have hfz13_1 := blk_frozen BK122.out 1
    have hfz13_2 := blk_frozen BK122.out 2
    have hfz13_3 := blk_frozen BK122.out 3
    have hfz13_4 := blk_frozen BK122.out 4
    have hfz13_5 := blk_frozen BK122.out 5
    have hfz13_6 := blk_frozen BK122.out 6
    go_wp2_with (first | ((with_reducible refine gate_callee (f := 11) rfl ?_); refine goesL_ (some 13) rfl rfl Try.func11 (by kernel_rfl) rfl #[.agg #[.int .i64 a1_0, .int .i64 a1_1, .int .i64 a1_2, .int .i64 a1_3, .int .i64 a1_4, .int .i64 a1_5, .int .i64 a1_6]] rfl (by (try simp only [List.map_toArray, List.map_cons, List.map_nil]); first | done | rfl | (simp only [List.length_drop, List.length_take]; rfl)) ?_; (with_reducible refine (line_ValidWait.calls a1_0 a1_1 a1_2 a1_3 a1_4 a1_5 a1_6 false _ A8.out).mono ?_); rintro e w14 ⟨rfl, hb⟩; refine ⟨_, rfl, ?_⟩; have n0_ := am (blk_below (zB BK122.out) hb); have n1_ := am (below_step (zL HB.out) hb); clear BK122 HB; have BK122 := n0_; have HB := n1_; clear n0_ n1_; (try clear hb); (try clear hb2); (try clear hk); (try clear hi)))
    go_meet
    case rel => exact ⟨_, (true), (by first | rfl | (simp; done) | (simp [*]; done)), H', ⟨by first | omega | exact Nat.le_refl _⟩, ⟨by exact zB <| BK122.out⟩, ⟨by repeat (first | (with_reducible first | exact HB.out | apply ba | apply bd | apply be | refine below_set ?_ GE122.out) | exact HB.out)⟩⟩
  case rest =>
   clear HC5
   try clear c1
   try clear p2
   try clear c4
   try clear c9
   try clear c11
   try clear c13
   try clear hcz10_0
   try clear hcz10_1
   try clear hcz10_2
   try clear hcz10_3
   try clear hcz10_4
   try clear hcz10_5
   try clear hcz10_6
   try clear hcz12_0
   try clear hcz12_1
   try clear hcz12_2
   try clear hcz12_3
   try clear hcz12_4
   try clear hcz12_5
   try clear hcz12_6
   try clear hcz13_0
   try clear hcz13_1
   try clear hcz13_2
   try clear hcz13_3
   try clear hcz13_4
   try clear hcz13_5
   try clear hcz13_6
   try clear hfz10_0
   try clear hfz10_1
   try clear hfz10_2
   try clear hfz10_3
   try clear hfz10_4
   try clear hfz10_5
   try clear hfz10_6
   try clear hfz12_0
   try clear hfz12_1
   try clear hfz12_2
   try clear hfz12_3
   try clear hfz12_4
   try clear hfz12_5
   try clear hfz12_6
   try clear hfz13_0
   try clear hfz13_1
   try clear hfz13_2
   try clear hfz13_3
   try clear hfz13_4
   try clear hfz13_5
   try clear hfz13_6
   obtain ⟨kq, x19_4, rfl, HA, HJ4, BK122, HB⟩ := hcut
   cases kq with
   | zero => exact absurd HA.out (by simp [line_Insert.j0])
   | succ kj4 =>
    have H := HA.out
    clear HA
    simp only [line_Insert.j0] at H
    by_cases c15 : x19_4 = true
    ·subst c15
     have H1 : (some (([] : List (S28)), 0, 1)) = some (r1, r2, r3) := by rw [if_pos rfl] at H; exact H
     clear H
     have H := H1
     clear H1
     simp only [Option.some.injEq, Prod.mk.injEq] at H
     obtain ⟨rfl, rfl, rfl⟩ := H
     go_wp2
     go_ret3
     exact ⟨_, by first | rfl | (simp [errW_none, errW_some] <;> rfl) | (simp [*, errW_none, errW_some] <;> rfl), by first | exact Kd.R_nil _ _ _ _ _ | exact Kd.N_nil _ _ _ _ _ | exact Kd.V_nil _ _ _ _ _ | exact Kd.Q_nil _ _ _ _ _ | exact Kd.S_nil _ _ _ _ _, by repeat (first | (with_reducible first | exact HB.out | apply ba | apply bd | apply be | refine below_set ?_ GE122.out) | exact HB.out)⟩
    ·replace c15 := Bool.eq_false_iff.mpr c15
     subst c15
     have H1 : ((line_Find.f l0 a1_0 a1_1 a1_2).bind fun t125 => (if t125 ≥ 0 then (some (([] : List (S28)), 0, 11)) else (if (l0.length : Int) = 8 then (some (([] : List (S28)), 0, 4)) else ((api_Wait_35.f l0).bind fun t126 => ((some (([(⟨(⟨a1_0, a1_1, a1_2⟩ : S24), (⟨a1_3, a1_4⟩ : S26), a1_5, a1_6⟩ : S28)] : List (S28)) : List (S28))).bind fun y129 => (if t126.length + y129.length < 2513169434916 then (line_Insert.l0 kj4 (t126 ++ y129) (l0.length : Int) a1_0 a1_1 a1_2 a1_3 a1_4 a1_5 a1_6) else (none))))))) = some (r1, r2, r3) := by rw [if_neg (show ¬ (false = true) by decide)] at H; exact H
     clear H
     have H := H1
     clear H1
     replace H := Option.bind_eq_some_iff.mp H
     obtain ⟨t125, A160, H⟩ := H
     replace H : (if t125 ≥ 0 then (some (([] : List (S28)), 0, 11)) else (if (l0.length : Int) = 8 then (some (([] : List (S28)), 0, 4)) else ((api_Wait_35.f l0).bind fun t126 => ((some (([(⟨(⟨a1_0, a1_1, a1_2⟩ : S24), (⟨a1_3, a1_4⟩ : S26), a1_5, a1_6⟩ : S28)] : List (S28)) : List (S28))).bind fun y129 => (if t126.length + y129.length < 2513169434916 then (line_Insert.l0 kj4 (t126 ++ y129) (l0.length : Int) a1_0 a1_1 a1_2 a1_3 a1_4 a1_5 a1_6) else (none)))))) = some (r1, r2, r3) := H
     have A16 := Aside0.mk A160
     clear A160
     by_cases c17 : t125 ≥ 0
     ·rw [if_pos c17] at H
      have c17b0 : decide (0 ≤ t125) = true := decide_eq_true c17
      clear c17
      simp only [Option.some.injEq, Prod.mk.injEq] at H
      obtain ⟨rfl, rfl, rfl⟩ := H
      have hcz18_0 : wc.cell? ⟨gb122, 0, none⟩ = some (.int .i64 a1_0) := (blk_cell BK122.out 0).trans rfl
      have hcz18_1 : wc.cell? ⟨gb122, 1, none⟩ = some (.int .i64 a1_1) := (blk_cell BK122.out 1).trans rfl
      have hcz18_2 : wc.cell? ⟨gb122, 2, none⟩ = some (.int .i64 a1_2) := (blk_cell BK122.out 2).trans rfl
      have hcz18_3 : wc.cell? ⟨gb122, 3, none⟩ = some (.int .i64 a1_3) := (blk_cell BK122.out 3).trans rfl
      have hcz18_4 : wc.cell? ⟨gb122, 4, none⟩ = some (.int .i64 a1_4) := (blk_cell BK122.out 4).trans rfl
      have hcz18_5 : wc.cell? ⟨gb122, 5, none⟩ = some (.int .i64 a1_5) := (blk_cell BK122.out 5).trans rfl
      have hcz18_6 : wc.cell? ⟨gb122, 6, none⟩ = some (.int .i64 a1_6) := (blk_cell BK122.out 6).trans rfl
      have hfz18_0 := blk_frozen BK122.out 0
      have hfz18_1 := blk_frozen BK122.out 1
      have hfz18_2 := blk_frozen BK122.out 2
      have hfz18_3 := blk_frozen BK122.out 3
      have hfz18_4 := blk_frozen BK122.out 4
      have hfz18_5 := blk_frozen BK122.out 5
      have hfz18_6 := blk_frozen BK122.out 6
      go_wp2_with (first | ((with_reducible refine gate_callee (f := 21) rfl ?_); refine goesL_ (some 23) rfl rfl Try.func21 (by kernel_rfl) rfl #[.slice A0 l0.length c0, .agg #[.int .i64 a1_0, .int .i64 a1_1, .int .i64 a1_2]] rfl (by (try simp only [List.map_toArray, List.map_cons, List.map_nil]); first | done | rfl | (simp only [List.length_drop, List.length_take]; rfl)) ?_; (with_reducible refine (line_Find.calls _ _ l0 a1_0 a1_1 a1_2 t125 _ ?side1 ?side2 A16.out).mono ?_); (case side1 => exact zC (Kd.C_below HR0.out HB.out)); (case side2 => exact HC0.out); rintro e w19 ⟨rfl, hb⟩; refine ⟨_, rfl, ?_⟩; have n0_ := am (blk_below (zB BK122.out) hb); have n1_ := am (below_step (zL HB.out) hb); clear BK122 HB; have BK122 := n0_; have HB := n1_; clear n0_ n1_; (try clear hb); (try clear hb2); (try clear hk); (try clear hi)))
      go_ret3
      exact ⟨_, by first | rfl | (simp [errW_none, errW_some] <;> rfl) | (simp [*, errW_none, errW_some] <;> rfl), by first | exact Kd.R_nil _ _ _ _ _ | exact Kd.N_nil _ _ _ _ _ | exact Kd.V_nil _ _ _ _ _ | exact Kd.Q_nil _ _ _ _ _ | exact Kd.S_nil _ _ _ _ _, by repeat (first | (with_reducible first | exact HB.out | apply ba | apply bd | apply be | refine below_set ?_ GE122.out) | exact HB.out)⟩
     ·rw [if_neg c17] at H
      have c17b0 : decide (0 ≤ t125) = false := decide_eq_false c17
      clear c17
      by_cases c20 : (l0.length : Int) = 8
      ·rw [if_pos c20] at H
       have c20b0 : ((l0.length : Int) == 8) = true := beq_iff_eq.mpr c20
       have c20b1 : ((l0.length : Int) != 8) = false := bne_eq_false_iff_eq.mpr c20
       clear c20
       simp only [Option.some.injEq, Prod.mk.injEq] at H
       obtain ⟨rfl, rfl, rfl⟩ := H
       have hcz21_0 : wc.cell? ⟨gb122, 0, none⟩ = some (.int .i64 a1_0) := (blk_cell BK122.out 0).trans rfl
       have hcz21_1 : wc.cell? ⟨gb122, 1, none⟩ = some (.int .i64 a1_1) := (blk_cell BK122.out 1).trans rfl
       have hcz21_2 : wc.cell? ⟨gb122, 2, none⟩ = some (.int .i64 a1_2) := (blk_cell BK122.out 2).trans rfl
       have hcz21_3 : wc.cell? ⟨gb122, 3, none⟩ = some (.int .i64 a1_3) := (blk_cell BK122.out 3).trans rfl
       have hcz21_4 : wc.cell? ⟨gb122, 4, none⟩ = some (.int .i64 a1_4) := (blk_cell BK122.out 4).trans rfl
       have hcz21_5 : wc.cell? ⟨gb122, 5, none⟩ = some (.int .i64 a1_5) := (blk_cell BK122.out 5).trans rfl
       have hcz21_6 : wc.cell? ⟨gb122, 6, none⟩ = some (.int .i64 a1_6) := (blk_cell BK122.out 6).trans rfl
       have hfz21_0 := blk_frozen BK122.out 0
       have hfz21_1 := blk_frozen BK122.out 1
       have hfz21_2 := blk_frozen BK122.out 2
       have hfz21_3 := blk_frozen BK122.out 3
       have hfz21_4 := blk_frozen BK122.out 4
       have hfz21_5 := blk_frozen BK122.out 5
       have hfz21_6 := blk_frozen BK122.out 6
       go_wp2_with (first | ((with_reducible refine gate_callee (f := 21) rfl ?_); refine goesL_ (some 23) rfl rfl Try.func21 (by kernel_rfl) rfl #[.slice A0 l0.length c0, .agg #[.int .i64 a1_0, .int .i64 a1_1, .int .i64 a1_2]] rfl (by (try simp only [List.map_toArray, List.map_cons, List.map_nil]); first | done | rfl | (simp only [List.length_drop, List.length_take]; rfl)) ?_; (with_reducible refine (line_Find.calls _ _ l0 a1_0 a1_1 a1_2 t125 _ ?side1 ?side2 A16.out).mono ?_); (case side1 => exact zC (Kd.C_below HR0.out HB.out)); (case side2 => exact HC0.out); rintro e w22 ⟨rfl, hb⟩; refine ⟨_, rfl, ?_⟩; have n0_ := am (blk_below (zB BK122.out) hb); have n1_ := am (below_step (zL HB.out) hb); clear BK122 HB; have BK122 := n0_; have HB := n1_; clear n0_ n1_; (try clear hb); (try clear hb2); (try clear hk); (try clear hi)))
       go_ret3
       exact ⟨_, by first | rfl | (simp [errW_none, errW_some] <;> rfl) | (simp [*, errW_none, errW_some] <;> rfl), by first | exact Kd.R_nil _ _ _ _ _ | exact Kd.N_nil _ _ _ _ _ | exact Kd.V_nil _ _ _ _ _ | exact Kd.Q_nil _ _ _ _ _ | exact Kd.S_nil _ _ _ _ _, by repeat (first | (with_reducible first | exact HB.out | apply ba | apply bd | apply be | refine below_set ?_ GE122.out) | exact HB.out)⟩
      ·rw [if_neg c20] at H
       have c20b0 : ((l0.length : Int) == 8) = false := beq_eq_false_iff_ne.mpr c20
       have c20b1 : ((l0.length : Int) != 8) = true := bne_iff_ne.mpr c20
       replace H := Option.bind_eq_some_iff.mp H
       obtain ⟨t126, A230, H⟩ := H
       replace H : ((some (([(⟨(⟨a1_0, a1_1, a1_2⟩ : S24), (⟨a1_3, a1_4⟩ : S26), a1_5, a1_6⟩ : S28)] : List (S28)) : List (S28))).bind fun y129 => (if t126.length + y129.length < 2513169434916 then (line_Insert.l0 kj4 (t126 ++ y129) (l0.length : Int) a1_0 a1_1 a1_2 a1_3 a1_4 a1_5 a1_6) else (none))) = some (r1, r2, r3) := H
       have A23 := Aside0.mk A230
       clear A230
       obtain ⟨y129, hy129⟩ : ∃ y_ : List (S28), y_ = (([(⟨(⟨a1_0, a1_1, a1_2⟩ : S24), (⟨a1_3, a1_4⟩ : S26), a1_5, a1_6⟩ : S28)] : List (S28))) := ⟨_, rfl⟩
       replace H : (if t126.length + y129.length < 2513169434916 then (line_Insert.l0 kj4 (t126 ++ y129) (l0.length : Int) a1_0 a1_1 a1_2 a1_3 a1_4 a1_5 a1_6) else (none)) = some (r1, r2, r3) := by first | (rw [hy129]; with_reducible exact H) | (have H2_ := (Option.bind_some _ _).symm.trans H; rw [hy129]; with_reducible exact H2_) | (have H2_ := (Option.bind_some _ _).symm.trans H; with_reducible exact H2_) | with_reducible exact H | (rw [hy129]; exact H) | exact H
       have Ny129 := Aside0.mk hy129
       clear hy129
       by_cases c24 : t126.length + y129.length < 2513169434916
       ·rw [if_pos c24] at H
        have LMc24 := Aside0.mk c24
        clear c24
        obtain ⟨y132, hy132⟩ : ∃ y_ : List (S28), y_ = (t126 ++ y129) := ⟨_, rfl⟩
        replace H : (line_Insert.l0 kj4 y132 (l0.length : Int) a1_0 a1_1 a1_2 a1_3 a1_4 a1_5 a1_6) = some (r1, r2, r3) := by first | (rw [hy132]; with_reducible exact H) | (have H2_ := (Option.bind_some _ _).symm.trans H; rw [hy132]; with_reducible exact H2_) | (have H2_ := (Option.bind_some _ _).symm.trans H; with_reducible exact H2_) | with_reducible exact H | (rw [hy132]; exact H) | exact H
        have Ny132 := Aside0.mk hy132
        clear hy132
        have H' := Aside0.mk H
        clear H
        have hcz25_0 : wc.cell? ⟨gb122, 0, none⟩ = some (.int .i64 a1_0) := (blk_cell BK122.out 0).trans rfl
        have hcz25_1 : wc.cell? ⟨gb122, 1, none⟩ = some (.int .i64 a1_1) := (blk_cell BK122.out 1).trans rfl
        have hcz25_2 : wc.cell? ⟨gb122, 2, none⟩ = some (.int .i64 a1_2) := (blk_cell BK122.out 2).trans rfl
        have hcz25_3 : wc.cell? ⟨gb122, 3, none⟩ = some (.int .i64 a1_3) := (blk_cell BK122.out 3).trans rfl
        have hcz25_4 : wc.cell? ⟨gb122, 4, none⟩ = some (.int .i64 a1_4) := (blk_cell BK122.out 4).trans rfl
        have hcz25_5 : wc.cell? ⟨gb122, 5, none⟩ = some (.int .i64 a1_5) := (blk_cell BK122.out 5).trans rfl
        have hcz25_6 : wc.cell? ⟨gb122, 6, none⟩ = some (.int .i64 a1_6) := (blk_cell BK122.out 6).trans rfl
        have hfz25_0 := blk_frozen BK122.out 0
        have hfz25_1 := blk_frozen BK122.out 1
        have hfz25_2 := blk_frozen BK122.out 2
        have hfz25_3 := blk_frozen BK122.out 3
        have hfz25_4 := blk_frozen BK122.out 4
        have hfz25_5 := blk_frozen BK122.out 5
        have hfz25_6 := blk_frozen BK122.out 6
        try go_wp2_with (first | ((with_reducible refine gate_callee (f := 21) rfl ?_); refine goesL_ (some 23) rfl rfl Try.func21 (by kernel_rfl) rfl #[.slice A0 l0.length c0, .agg #[.int .i64 a1_0, .int .i64 a1_1, .int .i64 a1_2]] rfl (by (try simp only [List.map_toArray, List.map_cons, List.map_nil]); first | done | rfl | (simp only [List.length_drop, List.length_take]; rfl)) ?_; (with_reducible refine (line_Find.calls _ _ l0 a1_0 a1_1 a1_2 t125 _ ?side1 ?side2 A16.out).mono ?_); (case side1 => exact zC (Kd.C_below HR0.out HB.out)); (case side2 => exact HC0.out); rintro e w26 ⟨rfl, hb⟩; refine ⟨_, rfl, ?_⟩; have n0_ := am (blk_below (zB BK122.out) hb); have n1_ := am (below_step (zL HB.out) hb); clear BK122 HB; have BK122 := n0_; have HB := n1_; clear n0_ n1_; (try clear hb); (try clear hb2); (try clear hk); (try clear hi)))
        have n0_ := am (blk_drew BK122.out)
        have n1_ := am (below_drew1 HB.out)
        clear BK122 HB
        have BK122 := n0_
        have HB := n1_
        clear n0_ n1_
        refine start_ (n := 6) (S := fun w' => w'.cell? ⟨gb122, 0, none⟩ = some (.int .i64 a1_0) ∧ w'.cell? ⟨gb122, 1, none⟩ = some (.int .i64 a1_1) ∧ w'.cell? ⟨gb122, 2, none⟩ = some (.int .i64 a1_2) ∧ w'.cell? ⟨gb122, 3, none⟩ = some (.int .i64 a1_3) ∧ w'.cell? ⟨gb122, 4, none⟩ = some (.int .i64 a1_4) ∧ w'.cell? ⟨gb122, 5, none⟩ = some (.int .i64 a1_5) ∧ w'.cell? ⟨gb122, 6, none⟩ = some (.int .i64 a1_6)) (ds := []) #[false, false, false, false, false, false] (by kernel_rfl) rfl rfl ⟨(blk_cell BK122.out 0).trans rfl, (blk_cell BK122.out 1).trans rfl, (blk_cell BK122.out 2).trans rfl, (blk_cell BK122.out 3).trans rfl, (blk_cell BK122.out 4).trans rfl, (blk_cell BK122.out 5).trans rfl, (blk_cell BK122.out 6).trans rfl⟩ (fun hHeld => ?_)
        generalize w26.drew = w27 at BK122 HB hHeld ⊢
        refine pure_ (i := 0) (N := some 28) (v := ?_) (a' := ?_) #[true, false, false, false, false, false] rfl rfl (by kernel_rfl) (fun _ _ _ h => h) (Or.inl ⟨by rfl, ?_⟩) ?_ ?_
        rotate_left
        ·intro w'
         go_simp
         with_reducible rfl
        rotate_left
        ·simp only [Act.put, List.setIfInBounds_toArray, List.set_cons_zero, List.set_cons_succ, i64_w, i32_w]
         rfl
        refine take_ (i := 2) (N := some 30) (v := ?_) (a' := ?_) #[true, false, true, false, false, false] rfl rfl (by kernel_rfl) (fun _ _ _ h => h) (Or.inl ⟨by rfl, ?_⟩) hHeld ?_ ?_
        rotate_left
        ·rintro w' ⟨s0, s1, s2, s3, s4, s5, s6⟩
         go_simp
         with_reducible rfl
        rotate_left
        ·simp only [Act.put, List.setIfInBounds_toArray, List.set_cons_zero, List.set_cons_succ, i64_w, i32_w]
         rfl
        refine join_ (σ := Value × Value) 2 #[true, true, true, true, false, false] (fun s_ => [(29, s_.1), (31, s_.2)]) (fun s_ w' => (w'.cell? ⟨gb122, 0, none⟩ = some (.int .i64 a1_0) ∧ w'.cell? ⟨gb122, 1, none⟩ = some (.int .i64 a1_1) ∧ w'.cell? ⟨gb122, 2, none⟩ = some (.int .i64 a1_2) ∧ w'.cell? ⟨gb122, 3, none⟩ = some (.int .i64 a1_3) ∧ w'.cell? ⟨gb122, 4, none⟩ = some (.int .i64 a1_4) ∧ w'.cell? ⟨gb122, 5, none⟩ = some (.int .i64 a1_5) ∧ w'.cell? ⟨gb122, 6, none⟩ = some (.int .i64 a1_6)) ∧ (Kd.R k28 28 w' w.heap.size (fun k_ => some k_ ≠ (s_.2 : Value).ownBlock ∧ k_ ≠ gb122) s_.1 t126) ∧ (Kd.R k28 28 w' w.heap.size (fun k_ => some k_ ≠ (s_.1 : Value).ownBlock ∧ k_ ≠ gb122) s_.2 y129) ∧ (w'.heap[gb122]? = some (.cells #[.int .i64 a1_0, .int .i64 a1_1, .int .i64 a1_2, .int .i64 a1_3, .int .i64 a1_4, .int .i64 a1_5, .int .i64 a1_6] 28 (0, 0))) ∧ (Below w.heap.size w w')) ?_ ?_
        rotate_left
        ·intro hCont
         refine two_ (i := 1) (j := 3) (Ni := some 29) (Nj := some 31) #[true, true, true, false, false, false] #[true, false, true, true, false, false] rfl rfl rfl rfl (by kernel_rfl) (by decide) (by decide) (fun K hK => ?_) (fun K hK => ?_)
         ·skip
          refine goes_ Try.func35 (by kernel_rfl) rfl #[.slice A0 l0.length c0] (by rfl) rfl rfl (by (try simp only [List.map_toArray, List.map_cons, List.map_nil]); first | done | rfl | (simp only [List.length_drop, List.length_take]; rfl)) ?_
          with_reducible refine (api_Wait_35.calls _ _ l0 t126 _ ?side1 ?side2 A23.out).mono ?_
          (case side1 => exact zC (Kd.C_below HR0.out HB.out))
          (case side2 => exact HC0.out)
          rintro e w28 ⟨v127, rfl, ho0, hb⟩
          refine ⟨_, rfl, ?_⟩
          have n0_ := am (Kd.R_lower (Kd.R_newB ho0 (g := gb122) (o := .cells #[.int .i64 a1_0, .int .i64 a1_1, .int .i64 a1_2, .int .i64 a1_3, .int .i64 a1_4, .int .i64 a1_5, .int .i64 a1_6] 28 (0, 0)) (zB BK122.out)) (below_size (zL HB.out)))
          have n1_ := am (blk_below (zB BK122.out) hb)
          have n2_ := am (below_step (zL HB.out) hb)
          clear BK122 HB
          have HO128 := n0_
          have BK122 := n1_
          have HB := n2_
          clear n0_ n1_ n2_
          (try clear hb)
          (try clear hb2)
          (try clear hk)
          (try clear hi)
          (try clear ho0)
          refine hK.out _ _ ⟨(blk_cell BK122.out 0).trans rfl, (blk_cell BK122.out 1).trans rfl, (blk_cell BK122.out 2).trans rfl, (blk_cell BK122.out 3).trans rfl, (blk_cell BK122.out 4).trans rfl, (blk_cell BK122.out 5).trans rfl, (blk_cell BK122.out 6).trans rfl⟩ (fun hHeld => ?_)
          clear hK K
          refine norm_ (a' := ?_) ?_ ?_
          rotate_left
          ·show Act.put _ (some 29) _ = _
           simp only [Act.put, List.setIfInBounds_toArray, List.set_cons_zero, List.set_cons_succ, i64_w, i32_w]
           rfl
          refine one_ (i := 3) (N := some 31) #[true, true, true, true, false, false] rfl rfl (by kernel_rfl) (by decide) (fun K hK => ?_)
          refine Kd.R_lit_step k28 _ 28 ?hg (N := 31) ?hd (xs := ([(⟨(⟨a1_0, a1_1, a1_2⟩ : S24), (⟨a1_3, a1_4⟩ : S26), a1_5, a1_6⟩ : S28)] : List (S28))) (inner := [.int .i64 a1_0, .int .i64 a1_1, .int .i64 a1_2, .int .i64 a1_3, .int .i64 a1_4, .int .i64 a1_5, .int .i64 a1_6]) (ok := fun _ => True) (okp := fun _ => True) ?hr ?hp (fun _ hk => hk) trivial (Below.refl _ _) (Nat.le_refl _) (by simp) ?_; (case hd => rfl); (case hg => rfl); (case hr => first | (go_simp; done) | (go_simp; rfl)); (case hp => exact (Reps.c7 (show Kd.M k28 _ _ _ (⟨(⟨a1_0, a1_1, a1_2⟩ : S24), (⟨a1_3, a1_4⟩ : S26), a1_5, a1_6⟩ : S28) [.int .i64 a1_0, .int .i64 a1_1, .int .i64 a1_2, .int .i64 a1_3, .int .i64 a1_4, .int .i64 a1_5, .int .i64 a1_6] from (k28_mkM _ _ _ (⟨(⟨a1_0, a1_1, a1_2⟩ : S24), (⟨a1_3, a1_4⟩ : S26), a1_5, a1_6⟩ : S28) )) (Reps.none _ _)))
          intro v130 w29 ho30 hb hg_ hnew_
          clear hg_ hnew_
          (first | rw [← Ny129.out] at ho30 | (simp only [Int.reduceToNat] at ho30; rw [← Ny129.out] at ho30))
          have n0_ := am (Kd.R_elder' (zR HO128.out) (Kd.R_base ho30) hb)
          have n1_ := am (Kd.R_lower (Kd.R_newB (Kd.R_new' ho30 (Kd.R_lt (zR HO128.out))) (g := gb122) (o := .cells #[.int .i64 a1_0, .int .i64 a1_1, .int .i64 a1_2, .int .i64 a1_3, .int .i64 a1_4, .int .i64 a1_5, .int .i64 a1_6] 28 (0, 0)) (zB BK122.out)) (below_size (zL HB.out)))
          have n2_ := am (blk_below (zB BK122.out) hb)
          have n3_ := am (below_step (zL HB.out) hb)
          clear HO128 BK122 HB
          have HO128 := n0_
          have HO131 := n1_
          have BK122 := n2_
          have HB := n3_
          clear n0_ n1_ n2_ n3_
          clear hb ho30
          refine hK.out _ _ ⟨(blk_cell BK122.out 0).trans rfl, (blk_cell BK122.out 1).trans rfl, (blk_cell BK122.out 2).trans rfl, (blk_cell BK122.out 3).trans rfl, (blk_cell BK122.out 4).trans rfl, (blk_cell BK122.out 5).trans rfl, (blk_cell BK122.out 6).trans rfl⟩ (fun hHeld => ?_)
          clear hK K
          refine norm_ (a' := ?_) ?_ ?_
          rotate_left
          ·show Act.put _ (some 31) _ = _
           simp only [Act.put, List.setIfInBounds_toArray, List.set_cons_zero, List.set_cons_succ, i64_w, i32_w]
           rfl
          exact norm_ (by simp only [putAll, Act.put, List.setIfInBounds_toArray, List.set_cons_zero, List.set_cons_succ]) (hCont (v127, v130) _ ⟨hHeld, (by exact zR <| Kd.R_mono HO128.out (fun _ hk => ⟨hk.2, hk.1.2⟩)), (by exact zR <| Kd.R_mono HO131.out (fun _ hk => ⟨hk.1.2, hk.2⟩)), (zB BK122.out), (by repeat (first | (with_reducible first | exact HB.out | apply ba | apply bd | apply be | refine below_set ?_ GE122.out) | exact HB.out))⟩)
         ·skip
          refine Kd.R_lit_step k28 _ 28 ?hg (N := 31) ?hd (xs := ([(⟨(⟨a1_0, a1_1, a1_2⟩ : S24), (⟨a1_3, a1_4⟩ : S26), a1_5, a1_6⟩ : S28)] : List (S28))) (inner := [.int .i64 a1_0, .int .i64 a1_1, .int .i64 a1_2, .int .i64 a1_3, .int .i64 a1_4, .int .i64 a1_5, .int .i64 a1_6]) (ok := fun _ => True) (okp := fun _ => True) ?hr ?hp (fun _ hk => hk) trivial (Below.refl _ _) (Nat.le_refl _) (by simp) ?_; (case hd => rfl); (case hg => rfl); (case hr => first | (go_simp; done) | (go_simp; rfl)); (case hp => exact (Reps.c7 (show Kd.M k28 _ _ _ (⟨(⟨a1_0, a1_1, a1_2⟩ : S24), (⟨a1_3, a1_4⟩ : S26), a1_5, a1_6⟩ : S28) [.int .i64 a1_0, .int .i64 a1_1, .int .i64 a1_2, .int .i64 a1_3, .int .i64 a1_4, .int .i64 a1_5, .int .i64 a1_6] from (k28_mkM _ _ _ (⟨(⟨a1_0, a1_1, a1_2⟩ : S24), (⟨a1_3, a1_4⟩ : S26), a1_5, a1_6⟩ : S28) )) (Reps.none _ _)))
          intro v130 w28 ho29 hb hg_ hnew_
          clear hg_ hnew_
          (first | rw [← Ny129.out] at ho29 | (simp only [Int.reduceToNat] at ho29; rw [← Ny129.out] at ho29))
          have n0_ := am (Kd.R_lower (Kd.R_newB ho29 (g := gb122) (o := .cells #[.int .i64 a1_0, .int .i64 a1_1, .int .i64 a1_2, .int .i64 a1_3, .int .i64 a1_4, .int .i64 a1_5, .int .i64 a1_6] 28 (0, 0)) (zB BK122.out)) (below_size (zL HB.out)))
          have n1_ := am (blk_below (zB BK122.out) hb)
          have n2_ := am (below_step (zL HB.out) hb)
          clear BK122 HB
          have HO131 := n0_
          have BK122 := n1_
          have HB := n2_
          clear n0_ n1_ n2_
          clear hb ho29
          refine hK.out _ _ ⟨(blk_cell BK122.out 0).trans rfl, (blk_cell BK122.out 1).trans rfl, (blk_cell BK122.out 2).trans rfl, (blk_cell BK122.out 3).trans rfl, (blk_cell BK122.out 4).trans rfl, (blk_cell BK122.out 5).trans rfl, (blk_cell BK122.out 6).trans rfl⟩ (fun hHeld => ?_)
          clear hK K
          refine norm_ (a' := ?_) ?_ ?_
          rotate_left
          ·show Act.put _ (some 31) _ = _
           simp only [Act.put, List.setIfInBounds_toArray, List.set_cons_zero, List.set_cons_succ, i64_w, i32_w]
           rfl
          refine one_ (i := 1) (N := some 29) #[true, true, true, true, false, false] rfl rfl (by kernel_rfl) (by decide) (fun K hK => ?_)
          refine goes_ Try.func35 (by kernel_rfl) rfl #[.slice A0 l0.length c0] (by rfl) rfl rfl (by (try simp only [List.map_toArray, List.map_cons, List.map_nil]); first | done | rfl | (simp only [List.length_drop, List.length_take]; rfl)) ?_
          with_reducible refine (api_Wait_35.calls _ _ l0 t126 _ ?side1 ?side2 A23.out).mono ?_
          (case side1 => exact zC (Kd.C_below HR0.out HB.out))
          (case side2 => exact HC0.out)
          rintro e w30 ⟨v127, rfl, ho0, hb⟩
          refine ⟨_, rfl, ?_⟩
          have n0_ := am (Kd.R_elder' (zR HO131.out) (Kd.R_base ho0) hb)
          have n1_ := am (Kd.R_lower (Kd.R_newB (Kd.R_new' ho0 (Kd.R_lt (zR HO131.out))) (g := gb122) (o := .cells #[.int .i64 a1_0, .int .i64 a1_1, .int .i64 a1_2, .int .i64 a1_3, .int .i64 a1_4, .int .i64 a1_5, .int .i64 a1_6] 28 (0, 0)) (zB BK122.out)) (below_size (zL HB.out)))
          have n2_ := am (blk_below (zB BK122.out) hb)
          have n3_ := am (below_step (zL HB.out) hb)
          clear HO131 BK122 HB
          have HO131 := n0_
          have HO128 := n1_
          have BK122 := n2_
          have HB := n3_
          clear n0_ n1_ n2_ n3_
          (try clear hb)
          (try clear hb2)
          (try clear hk)
          (try clear hi)
          (try clear ho0)
          refine hK.out _ _ ⟨(blk_cell BK122.out 0).trans rfl, (blk_cell BK122.out 1).trans rfl, (blk_cell BK122.out 2).trans rfl, (blk_cell BK122.out 3).trans rfl, (blk_cell BK122.out 4).trans rfl, (blk_cell BK122.out 5).trans rfl, (blk_cell BK122.out 6).trans rfl⟩ (fun hHeld => ?_)
          clear hK K
          refine norm_ (a' := ?_) ?_ ?_
          rotate_left
          ·show Act.put _ (some 29) _ = _
           simp only [Act.put, List.setIfInBounds_toArray, List.set_cons_zero, List.set_cons_succ, i64_w, i32_w]
           rfl
          exact norm_ (by simp only [putAll, Act.put, List.setIfInBounds_toArray, List.set_cons_zero, List.set_cons_succ]) (hCont (v127, v130) _ ⟨hHeld, (by exact zR <| Kd.R_mono HO128.out (fun _ hk => ⟨hk.1.2, hk.2⟩)), (by exact zR <| Kd.R_mono HO131.out (fun _ hk => ⟨hk.2, hk.1.2⟩)), (zB BK122.out), (by repeat (first | (with_reducible first | exact HB.out | apply ba | apply bd | apply be | refine below_set ?_ GE122.out) | exact HB.out))⟩)
        rintro ⟨v127, v130⟩ w31 ⟨hS_, h0_, h1_, h2_, h3_⟩
        have n0_ : Aside0 (Kd.R k28 28 w31 w.heap.size (fun k_ => some k_ ≠ (v130 : Value).ownBlock ∧ k_ ≠ gb122) v127 t126) := ⟨h0_⟩
        have n1_ : Aside0 (Kd.R k28 28 w31 w.heap.size (fun k_ => some k_ ≠ (v127 : Value).ownBlock ∧ k_ ≠ gb122) v130 y129) := ⟨h1_⟩
        have n2_ : Aside0 (w31.heap[gb122]? = some (.cells #[.int .i64 a1_0, .int .i64 a1_1, .int .i64 a1_2, .int .i64 a1_3, .int .i64 a1_4, .int .i64 a1_5, .int .i64 a1_6] 28 (0, 0))) := ⟨h2_⟩
        have n3_ : Aside0 (Below w.heap.size w w31) := ⟨h3_⟩
        clear BK122 HB
        clear h0_ h1_ h2_ h3_
        have HO128 := n0_
        have HO131 := n1_
        have BK122 := n2_
        have HB := n3_
        clear n0_ n1_ n2_ n3_
        have hHeld : w31.cell? ⟨gb122, 0, none⟩ = some (.int .i64 a1_0) ∧ w31.cell? ⟨gb122, 1, none⟩ = some (.int .i64 a1_1) ∧ w31.cell? ⟨gb122, 2, none⟩ = some (.int .i64 a1_2) ∧ w31.cell? ⟨gb122, 3, none⟩ = some (.int .i64 a1_3) ∧ w31.cell? ⟨gb122, 4, none⟩ = some (.int .i64 a1_4) ∧ w31.cell? ⟨gb122, 5, none⟩ = some (.int .i64 a1_5) ∧ w31.cell? ⟨gb122, 6, none⟩ = some (.int .i64 a1_6) := hS_
        obtain ⟨Ao33, co33, eo33⟩ := Kd.R_slice HO131.out
        (first | subst eo33 | (injection eo33 with f1_ f2_ f3_; have f4_ := f1_.symm; have f5_ := f3_.symm; clear f1_ f2_ f3_; subst f4_; subst f5_))
        refine norm_ (a' := ?_) ?_ ?_
        rotate_left
        ·simp only [putAll, Act.put, List.setIfInBounds_toArray, List.set_cons_zero, List.set_cons_succ]
         rfl
        refine one_ (i := 4) (N := some 32) #[true, true, true, true, true, false] rfl rfl (by kernel_rfl) (by decide) (fun K hK => ?_)
        refine Kd.R_append_rows_step k28 (w0 := w) w.heap.size (by rfl) (.tmp 29) (.tmp 31) 22 28 (.agg #[(.int .i64 0), (.int .i64 0), (.int .i64 0), (.int .i64 0), (.int .i64 0), (.int .i64 0), (.int .i64 0)]) 56 rfl Try.underlying22 info28 rfl (by decide) (by omega) v127 t126 y129 _ _ _ (fun k_ => some k_ ≠ (.slice Ao33 y129.length co33 : Value).ownBlock ∧ k_ ≠ gb122) (fun _ => False) rfl rfl ?aO ?aR (fun _ _ h => h) (fun _ h => h.elim) ?aF ?aB ?aS ?aL ?_
        (case aR => exact zC (Kd.R_reads' HO131.out).2.2)
        (case aB => exact (by repeat (first | (with_reducible first | exact HB.out | apply ba | apply bd | apply be | refine below_set ?_ GE122.out) | exact HB.out)))
        (case aF => exact (fun k_ hk => ⟨Kd.fresh' (Kd.R_lt (zR HO131.out)) k_ hk, Kd.freshB (g := gb122) (o := .cells #[.int .i64 a1_0, .int .i64 a1_1, .int .i64 a1_2, .int .i64 a1_3, .int .i64 a1_4, .int .i64 a1_5, .int .i64 a1_6] 28 (0, 0)) (zB BK122.out) k_ hk⟩))
        (case aO => exact (zR HO128.out))
        (case aS => exact (below_size (zL HB.out)))
        (case aL => have := LMc24.out; omega)
        intro v133 w32 ho hb hg hat
        rw [← Ny132.out] at ho
        have n0_ := am (blk_grown (g := gb122) (o := .cells #[.int .i64 a1_0, .int .i64 a1_1, .int .i64 a1_2, .int .i64 a1_3, .int .i64 a1_4, .int .i64 a1_5, .int .i64 a1_6] 28 (0, 0)) (zB BK122.out) hg (Kd.R_away HO128.out (fun _ hk => hk.2)))
        have n1_ := am (Kd.R_after (ok := (fun k_ => k_ ≠ gb122)) (by exact zR <| Kd.R_mono HO131.out (fun _ hk => ⟨hk.2, hk.1⟩)) hg hat)
        have n2_ := am (hb)
        have n3_ := am (ho)
        clear BK122 HO131 HB HO128
        have BK122 := n0_
        have HO131 := n1_
        have HB := n2_
        have HO134 := n3_
        clear n0_ n1_ n2_ n3_
        clear ho hb hg hat
        refine hK.out _ _ ⟨(blk_cell BK122.out 0).trans rfl, (blk_cell BK122.out 1).trans rfl, (blk_cell BK122.out 2).trans rfl, (blk_cell BK122.out 3).trans rfl, (blk_cell BK122.out 4).trans rfl, (blk_cell BK122.out 5).trans rfl, (blk_cell BK122.out 6).trans rfl⟩ (fun hHeld => ?_)
        clear hK K
        refine norm_ (a' := ?_) ?_ ?_
        rotate_left
        ·show Act.put _ (some 32) _ = _
         simp only [Act.put, List.setIfInBounds_toArray, List.set_cons_zero, List.set_cons_succ, i64_w, i32_w]
         rfl
        refine pure_ (i := 5) (N := some 7) (v := ?_) (a' := ?_) #[true, true, true, true, true, true] rfl rfl (by kernel_rfl) (fun _ _ _ h => h) (Or.inl ⟨by rfl, ?_⟩) ?_ ?_
        rotate_left
        ·intro w'
         go_simp
         with_reducible rfl
        rotate_left
        ·simp only [Act.put, List.setIfInBounds_toArray, List.set_cons_zero, List.set_cons_succ, i64_w, i32_w]
         rfl
        refine done_ (by kernel_rfl) ?_
        try go_wp2
        go_loopg [8] kj4 (fun kq v8 w' => ∃ (x7_2 : List (S28)) (x8_2 : Int) (x123000_2 : Int) (x123001_2 : Int) (x123002_2 : Int) (x123003_2 : Int) (x123004_2 : Int) (x123005_2 : Int) (x123006_2 : Int), v8 = .int .i64 x8_2 ∧ Aside0 (line_Insert.l0 kq x7_2 x8_2 x123000_2 x123001_2 x123002_2 x123003_2 x123004_2 x123005_2 x123006_2 = some (r1, r2, r3)) ∧ Aside0 (kq ≤ kj4) ∧ Aside0 (Kd.R k28 28 w' w.heap.size (fun k_ => k_ ≠ gb122) v133 x7_2) ∧ Aside0 (w'.heap[gb122]? = some (.cells #[.int .i64 x123000_2, .int .i64 x123001_2, .int .i64 x123002_2, .int .i64 x123003_2, .int .i64 x123004_2, .int .i64 x123005_2, .int .i64 x123006_2] 28 (0, 0))) ∧ Aside0 (Below w.heap.size w w'))
        case atStart => exact ⟨(y132), ((l0.length : Int)), (a1_0), (a1_1), (a1_2), (a1_3), (a1_4), (a1_5), (a1_6), (by first | rfl | (simp; done) | (simp [*]; done)), H', ⟨Nat.le_refl _⟩, ⟨by exact zR <| Kd.R_mono HO134.out (fun _ hk => hk.2)⟩, ⟨by exact zB <| BK122.out⟩, ⟨by repeat (first | (with_reducible first | exact HB.out | apply ba | apply bd | apply be | refine below_set ?_ GE122.out) | exact HB.out)⟩⟩
        case round =>
         clear H'
         try clear c1
         try clear c2
         try clear p2
         try clear c3
         try clear c4
         try clear c7
         try clear c9
         try clear c11
         try clear c13
         try clear c15
         try clear c17
         try clear c17b0
         try clear c20
         try clear c20b0
         try clear c20b1
         try clear c21
         try clear c24
         try clear hcz10_0
         try clear hcz10_1
         try clear hcz10_2
         try clear hcz10_3
         try clear hcz10_4
         try clear hcz10_5
         try clear hcz10_6
         try clear hcz12_0
         try clear hcz12_1
         try clear hcz12_2
         try clear hcz12_3
         try clear hcz12_4
         try clear hcz12_5
         try clear hcz12_6
         try clear hcz13_0
         try clear hcz13_1
         try clear hcz13_2
         try clear hcz13_3
         try clear hcz13_4
         try clear hcz13_5
         try clear hcz13_6
         try clear hcz18_0
         try clear hcz18_1
         try clear hcz18_2
         try clear hcz18_3
         try clear hcz18_4
         try clear hcz18_5
         try clear hcz18_6
         try clear hcz21_0
         try clear hcz21_1
         try clear hcz21_2
         try clear hcz21_3
         try clear hcz21_4
         try clear hcz21_5
         try clear hcz21_6
         try clear hcz25_0
         try clear hcz25_1
         try clear hcz25_2
         try clear hcz25_3
         try clear hcz25_4
         try clear hcz25_5
         try clear hcz25_6
         try clear hfz10_0
         try clear hfz10_1
         try clear hfz10_2
         try clear hfz10_3
         try clear hfz10_4
         try clear hfz10_5
         try clear hfz10_6
         try clear hfz12_0
         try clear hfz12_1
         try clear hfz12_2
         try clear hfz12_3
         try clear hfz12_4
         try clear hfz12_5
         try clear hfz12_6
         try clear hfz13_0
         try clear hfz13_1
         try clear hfz13_2
         try clear hfz13_3
         try clear hfz13_4
         try clear hfz13_5
         try clear hfz13_6
         try clear hfz18_0
         try clear hfz18_1
         try clear hfz18_2
         try clear hfz18_3
         try clear hfz18_4
         try clear hfz18_5
         try clear hfz18_6
         try clear hfz21_0
         try clear hfz21_1
         try clear hfz21_2
         try clear hfz21_3
         try clear hfz21_4
         try clear hfz21_5
         try clear hfz21_6
         try clear hfz25_0
         try clear hfz25_1
         try clear hfz25_2
         try clear hfz25_3
         try clear hfz25_4
         try clear hfz25_5
         try clear hfz25_6
         try clear p2
         obtain ⟨x7_2, x8_2, x123000_2, x123001_2, x123002_2, x123003_2, x123004_2, x123005_2, x123006_2, rfl, HA, HK2, HO_7, BK122, HB⟩ := hrel
         cases gk with
         | zero => exact absurd HA.out (by simp [line_Insert.l0])
         | succ k2 =>
          have H := HA.out
          clear HA
          simp only [line_Insert.l0] at H
          by_cases c34 : x8_2 > 0
          ·rw [if_pos c34] at H
           have c34b0 : decide (0 < x8_2) = true := decide_eq_true c34
           clear c34
           obtain ⟨ji35, hji35⟩ : ∃ j_ : Int, (wrap64 (x8_2 - 1)) = j_ := ⟨_, rfl⟩
           replace H : (if 0 ≤ (ji35) then (if (ji35) < (x7_2.length : Int) then ((line_meet.f x123000_2 x123001_2 x123002_2 x123003_2 x123004_2 x123005_2 x123006_2 ((rd_T28 x7_2 (ji35)).f0.f0) ((rd_T28 x7_2 (ji35)).f0.f1) ((rd_T28 x7_2 (ji35)).f0.f2) ((rd_T28 x7_2 (ji35)).f1.f0) ((rd_T28 x7_2 (ji35)).f1.f1) ((rd_T28 x7_2 (ji35)).f2) ((rd_T28 x7_2 (ji35)).f3)).bind fun t136 => (if t136 = 1 then (if 0 ≤ x8_2 then (if x8_2 < (x7_2.length : Int) then ((some (x7_2.set (x8_2 : Int).toNat (⟨(⟨(rd_T28 x7_2 (ji35)).f0.f0, (rd_T28 x7_2 (ji35)).f0.f1, (rd_T28 x7_2 (ji35)).f0.f2⟩ : S24), (⟨(rd_T28 x7_2 (ji35)).f1.f0, (rd_T28 x7_2 (ji35)).f1.f1⟩ : S26), (rd_T28 x7_2 (ji35)).f2, (rd_T28 x7_2 (ji35)).f3⟩ : S28) : List (S28))).bind fun y138 => (line_Insert.l0 k2 (y138.set (x8_2 : Int).toNat (⟨(⟨(rd_T28 y138 x8_2).f0.f0, (rd_T28 y138 x8_2).f0.f1, (rd_T28 y138 x8_2).f0.f2⟩ : S24), (⟨(rd_T28 y138 x8_2).f1.f0, (rd_T28 y138 x8_2).f1.f1⟩ : S26), (rd_T28 y138 x8_2).f2, wrap64 (((rd_T28 y138 x8_2).f3) + 1)⟩ : S28)) ji35 x123000_2 x123001_2 x123002_2 x123003_2 x123004_2 x123005_2 x123006_2)) else (none)) else (none)) else (if 0 ≤ x8_2 then (if x8_2 < (x7_2.length : Int) then (some ((x7_2.set (x8_2 : Int).toNat (⟨(⟨x123000_2, x123001_2, x123002_2⟩ : S24), (⟨x123003_2, x123004_2⟩ : S26), x123005_2, x123006_2⟩ : S28)), x8_2, 0)) else (none)) else (none)))) else (none)) else (none)) = some (r1, r2, r3) := by first | (rw [hji35] at H; exact H) | (simp only [hji35] at H ⊢; exact H)
           have hji35w : (IntKind.i64.wrap (x8_2 - 1)) = ji35 := (i64_w _).trans hji35
           by_cases c36 : 0 ≤ (ji35)
           ·rw [if_pos c36] at H
            have c36b0 : decide (0 ≤ (ji35)) = true := decide_eq_true c36
            clear c36
            by_cases c37 : (ji35) < (x7_2.length : Int)
            ·rw [if_pos c37] at H
             have c37b0 : decide ((ji35) < (x7_2.length : Int)) = true := decide_eq_true c37
             clear c37
             replace H := Option.bind_eq_some_iff.mp H
             obtain ⟨t136, A380, H⟩ := H
             replace H : (if t136 = 1 then (if 0 ≤ x8_2 then (if x8_2 < (x7_2.length : Int) then ((some (x7_2.set (x8_2 : Int).toNat (⟨(⟨(rd_T28 x7_2 (ji35)).f0.f0, (rd_T28 x7_2 (ji35)).f0.f1, (rd_T28 x7_2 (ji35)).f0.f2⟩ : S24), (⟨(rd_T28 x7_2 (ji35)).f1.f0, (rd_T28 x7_2 (ji35)).f1.f1⟩ : S26), (rd_T28 x7_2 (ji35)).f2, (rd_T28 x7_2 (ji35)).f3⟩ : S28) : List (S28))).bind fun y138 => (line_Insert.l0 k2 (y138.set (x8_2 : Int).toNat (⟨(⟨(rd_T28 y138 x8_2).f0.f0, (rd_T28 y138 x8_2).f0.f1, (rd_T28 y138 x8_2).f0.f2⟩ : S24), (⟨(rd_T28 y138 x8_2).f1.f0, (rd_T28 y138 x8_2).f1.f1⟩ : S26), (rd_T28 y138 x8_2).f2, wrap64 (((rd_T28 y138 x8_2).f3) + 1)⟩ : S28)) ji35 x123000_2 x123001_2 x123002_2 x123003_2 x123004_2 x123005_2 x123006_2)) else (none)) else (none)) else (if 0 ≤ x8_2 then (if x8_2 < (x7_2.length : Int) then (some ((x7_2.set (x8_2 : Int).toNat (⟨(⟨x123000_2, x123001_2, x123002_2⟩ : S24), (⟨x123003_2, x123004_2⟩ : S26), x123005_2, x123006_2⟩ : S28)), x8_2, 0)) else (none)) else (none))) = some (r1, r2, r3) := H
             have A38 := Aside0.mk A380
             clear A380
             by_cases c39 : t136 = 1
             ·rw [if_pos c39] at H
              have c39b0 : (t136 == 1) = true := beq_iff_eq.mpr c39
              have c39b1 : (t136 != 1) = false := bne_eq_false_iff_eq.mpr c39
              clear c39
              by_cases c40 : 0 ≤ x8_2
              ·rw [if_pos c40] at H
               have c40b0 : decide (0 ≤ x8_2) = true := decide_eq_true c40
               clear c40
               by_cases c41 : x8_2 < (x7_2.length : Int)
               ·rw [if_pos c41] at H
                have c41b0 : decide (x8_2 < (x7_2.length : Int)) = true := decide_eq_true c41
                clear c41
                obtain ⟨y138, hy138⟩ : ∃ y_ : List (S28), y_ = (x7_2.set (x8_2 : Int).toNat (⟨(⟨(rd_T28 x7_2 (ji35)).f0.f0, (rd_T28 x7_2 (ji35)).f0.f1, (rd_T28 x7_2 (ji35)).f0.f2⟩ : S24), (⟨(rd_T28 x7_2 (ji35)).f1.f0, (rd_T28 x7_2 (ji35)).f1.f1⟩ : S26), (rd_T28 x7_2 (ji35)).f2, (rd_T28 x7_2 (ji35)).f3⟩ : S28)) := ⟨_, rfl⟩
                replace H : (line_Insert.l0 k2 (y138.set (x8_2 : Int).toNat (⟨(⟨(rd_T28 y138 x8_2).f0.f0, (rd_T28 y138 x8_2).f0.f1, (rd_T28 y138 x8_2).f0.f2⟩ : S24), (⟨(rd_T28 y138 x8_2).f1.f0, (rd_T28 y138 x8_2).f1.f1⟩ : S26), (rd_T28 y138 x8_2).f2, wrap64 (((rd_T28 y138 x8_2).f3) + 1)⟩ : S28)) ji35 x123000_2 x123001_2 x123002_2 x123003_2 x123004_2 x123005_2 x123006_2) = some (r1, r2, r3) := by first | (rw [hy138]; with_reducible exact H) | (have H2_ := (Option.bind_some _ _).symm.trans H; rw [hy138]; with_reducible exact H2_) | (have H2_ := (Option.bind_some _ _).symm.trans H; with_reducible exact H2_) | with_reducible exact H | (rw [hy138]; exact H) | exact H
                have Ny138 := Aside0.mk hy138
                clear hy138
                obtain ⟨y140, hy140⟩ : ∃ y_ : List (S28), y_ = (y138.set (x8_2 : Int).toNat (⟨(⟨(rd_T28 y138 x8_2).f0.f0, (rd_T28 y138 x8_2).f0.f1, (rd_T28 y138 x8_2).f0.f2⟩ : S24), (⟨(rd_T28 y138 x8_2).f1.f0, (rd_T28 y138 x8_2).f1.f1⟩ : S26), (rd_T28 y138 x8_2).f2, wrap64 (((rd_T28 y138 x8_2).f3) + 1)⟩ : S28)) := ⟨_, rfl⟩
                replace H : (line_Insert.l0 k2 y140 ji35 x123000_2 x123001_2 x123002_2 x123003_2 x123004_2 x123005_2 x123006_2) = some (r1, r2, r3) := by first | (rw [hy140]; with_reducible exact H) | (have H2_ := (Option.bind_some _ _).symm.trans H; rw [hy140]; with_reducible exact H2_) | (have H2_ := (Option.bind_some _ _).symm.trans H; with_reducible exact H2_) | with_reducible exact H | (rw [hy140]; exact H) | exact H
                have Ny140 := Aside0.mk hy140
                clear hy140
                have H' := Aside0.mk H
                clear H
                try go_wp2
                have n0_ := am (Kd.R_drew HO_7.out)
                have n1_ := am (blk_drew BK122.out)
                have n2_ := am (below_drew1 HB.out)
                clear HO_7 BK122 HB
                have HO_7 := n0_
                have BK122 := n1_
                have HB := n2_
                clear n0_ n1_ n2_
                obtain ⟨Ao45, co45, eo45⟩ := Kd.R_slice HO_7.out
                (first | subst eo45 | (injection eo45 with f1_ f2_ f3_; have f4_ := f1_.symm; have f5_ := f3_.symm; clear f1_ f2_ f3_; subst f4_; subst f5_))
                have p135 : 0 ≤ ((ji35) : Int) := of_decide_eq_true (by first | (with_reducible assumption) | assumption)
                have q135 : (ji35) < (x7_2.length : Int) := of_decide_eq_true (by first | (with_reducible assumption) | assumption)
                obtain ⟨ad135, e135, hx135_0, hx135_1, hx135_2, hx135_3, hx135_4, hx135_5, hx135_6⟩ := at_T28 (Kd.R_reads' HO_7.out).2.2 (ji35) p135 q135
                cases e135
                replace p135 := eq_true p135
                replace q135 := eq_true q135
                refine start_ (n := 12) (S := fun w' => w'.cell? ⟨gb122, 0, none⟩ = some (.int .i64 x123000_2) ∧ w'.cell? ⟨gb122, 1, none⟩ = some (.int .i64 x123001_2) ∧ w'.cell? ⟨gb122, 2, none⟩ = some (.int .i64 x123002_2) ∧ w'.cell? ⟨gb122, 3, none⟩ = some (.int .i64 x123003_2) ∧ w'.cell? ⟨gb122, 4, none⟩ = some (.int .i64 x123004_2) ∧ w'.cell? ⟨gb122, 5, none⟩ = some (.int .i64 x123005_2) ∧ w'.cell? ⟨gb122, 6, none⟩ = some (.int .i64 x123006_2) ∧ w'.cell? (ad135.add (((ji35)).toNat * 7)) = some (.int .i64 ((rd_T28 x7_2 (ji35)).f0.f0)) ∧ w'.cell? ⟨(ad135.add (((ji35)).toNat * 7)).block, (ad135.add (((ji35)).toNat * 7)).off + 1, none⟩ = some (.int .i64 ((rd_T28 x7_2 (ji35)).f0.f1)) ∧ w'.cell? ⟨(ad135.add (((ji35)).toNat * 7)).block, (ad135.add (((ji35)).toNat * 7)).off + 2, none⟩ = some (.int .i64 ((rd_T28 x7_2 (ji35)).f0.f2)) ∧ w'.cell? ⟨(ad135.add (((ji35)).toNat * 7)).block, (ad135.add (((ji35)).toNat * 7)).off + 3, none⟩ = some (.int .i64 ((rd_T28 x7_2 (ji35)).f1.f0)) ∧ w'.cell? ⟨(ad135.add (((ji35)).toNat * 7)).block, (ad135.add (((ji35)).toNat * 7)).off + 4, none⟩ = some (.int .i64 ((rd_T28 x7_2 (ji35)).f1.f1)) ∧ w'.cell? ⟨(ad135.add (((ji35)).toNat * 7)).block, (ad135.add (((ji35)).toNat * 7)).off + 5, none⟩ = some (.int .i64 ((rd_T28 x7_2 (ji35)).f2)) ∧ w'.cell? ⟨(ad135.add (((ji35)).toNat * 7)).block, (ad135.add (((ji35)).toNat * 7)).off + 6, none⟩ = some (.int .i64 ((rd_T28 x7_2 (ji35)).f3))) (ds := []) #[false, false, false, false, false, false, false, false, false, false, false, false] (by kernel_rfl) rfl rfl ⟨(blk_cell BK122.out 0).trans rfl, (blk_cell BK122.out 1).trans rfl, (blk_cell BK122.out 2).trans rfl, (blk_cell BK122.out 3).trans rfl, (blk_cell BK122.out 4).trans rfl, (blk_cell BK122.out 5).trans rfl, (blk_cell BK122.out 6).trans rfl, hx135_0, hx135_1, hx135_2, hx135_3, hx135_4, hx135_5, hx135_6⟩ (fun hHeld => ?_); refine with_tabW line_Insert.tab11 line_Insert.bits11 (fun HT_ HW_ => ?_)
                generalize wr.drew = w44 at HO_7 BK122 HB hx135_0 hx135_1 hx135_2 hx135_3 hx135_4 hx135_5 hx135_6 hHeld ⊢
                refine pure_ (i := 0) (N := some 35) (v := ?_) (a' := ?_) #[true, false, false, false, false, false, false, false, false, false, false, false] rfl rfl (any_of HT_.out (by kernel_rfl)) (fun _ _ _ h => h) (Or.inl ⟨by rfl, ?_⟩) ?_ ?_
                rotate_left
                ·intro w'
                 go_simp
                 with_reducible rfl
                rotate_left
                ·simp only [Act.put, List.setIfInBounds_toArray, List.set_cons_zero, List.set_cons_succ, i64_w, i32_w]
                 rfl
                refine pure_ (i := 1) (N := some 36) (v := ?_) (a' := ?_) #[true, true, false, false, false, false, false, false, false, false, false, false] rfl rfl (any_of HT_.out (by kernel_rfl)) (fun _ _ _ h => h) (Or.inl ⟨by rfl, ?_⟩) ?_ ?_
                rotate_left
                ·intro w'
                 go_simp
                 with_reducible rfl
                rotate_left
                ·simp only [Act.put, List.setIfInBounds_toArray, List.set_cons_zero, List.set_cons_succ, i64_w, i32_w]
                 rfl
                refine pure_ (i := 2) (N := some 37) (v := ?_) (a' := ?_) #[true, true, true, false, false, false, false, false, false, false, false, false] rfl rfl (any_of HT_.out (by kernel_rfl)) (fun _ _ _ h => h) (Or.inl ⟨by rfl, ?_⟩) ?_ ?_
                rotate_left
                ·intro w'
                 go_simp
                 with_reducible rfl
                rotate_left
                ·simp only [Act.put, List.setIfInBounds_toArray, List.set_cons_zero, List.set_cons_succ, i64_w, i32_w]
                 rfl
                refine pure_ (i := 4) (N := some 39) (v := ?_) (a' := ?_) #[true, true, true, false, true, false, false, false, false, false, false, false] rfl rfl (any_of HT_.out (by kernel_rfl)) (fun _ _ _ h => h) (Or.inl ⟨by rfl, ?_⟩) ?_ ?_
                rotate_left
                ·intro w'
                 go_simp
                 with_reducible rfl
                rotate_left
                ·simp only [Act.put, List.setIfInBounds_toArray, List.set_cons_zero, List.set_cons_succ, i64_w, i32_w]
                 rfl
                refine pure_ (i := 5) (N := some 40) (v := ?_) (a' := ?_) #[true, true, true, false, true, true, false, false, false, false, false, false] rfl rfl (any_of HT_.out (by kernel_rfl)) (fun _ _ _ h => h) (Or.inl ⟨by rfl, ?_⟩) ?_ ?_
                rotate_left
                ·intro w'
                 go_simp
                 with_reducible rfl
                rotate_left
                ·simp only [Act.put, List.setIfInBounds_toArray, List.set_cons_zero, List.set_cons_succ, i64_w, i32_w]
                 rfl
                refine pure_ (i := 6) (N := some 41) (v := ?_) (a' := ?_) #[true, true, true, false, true, true, true, false, false, false, false, false] rfl rfl (any_of HT_.out (by kernel_rfl)) (fun _ _ _ h => h) (Or.inl ⟨by rfl, ?_⟩) ?_ ?_
                rotate_left
                ·intro w'
                 go_simp
                 with_reducible rfl
                rotate_left
                ·simp only [Act.put, List.setIfInBounds_toArray, List.set_cons_zero, List.set_cons_succ, i64_w, i32_w]
                 rfl
                refine pure_ (i := 7) (N := some 42) (v := ?_) (a' := ?_) #[true, true, true, false, true, true, true, true, false, false, false, false] rfl rfl (any_of HT_.out (by kernel_rfl)) (fun _ _ _ h => h) (Or.inl ⟨by rfl, ?_⟩) ?_ ?_
                rotate_left
                ·intro w'
                 go_simp
                 with_reducible rfl
                rotate_left
                ·simp only [Act.put, List.setIfInBounds_toArray, List.set_cons_zero, List.set_cons_succ, i64_w, i32_w]
                 rfl
                refine take_ (i := 3) (N := some 38) (v := ?_) (a' := ?_) #[true, true, true, true, true, true, true, true, false, false, false, false] rfl rfl (take_ofW HT_.out HW_.out (by kernel_rfl)) (fun _ _ _ h => h) (Or.inl ⟨by rfl, ?_⟩) hHeld ?_ ?_
                rotate_left
                ·rintro w' ⟨s0, s1, s2, s3, s4, s5, s6, s7, s8, s9, s10, s11, s12, s13⟩
                 go_simp
                 with_reducible rfl
                rotate_left
                ·simp only [Act.put, List.setIfInBounds_toArray, List.set_cons_zero, List.set_cons_succ, i64_w, i32_w]
                 rfl
                refine take_ (i := 8) (N := some 43) (v := ?_) (a' := ?_) #[true, true, true, true, true, true, true, true, true, false, false, false] rfl rfl (take_ofW HT_.out HW_.out (by kernel_rfl)) (fun _ _ _ h => h) (Or.inl ⟨by rfl, ?_⟩) hHeld ?_ ?_
                rotate_left
                ·rintro w' ⟨s0, s1, s2, s3, s4, s5, s6, s7, s8, s9, s10, s11, s12, s13⟩
                 go_simp
                 with_reducible rfl
                rotate_left
                ·simp only [Act.put, List.setIfInBounds_toArray, List.set_cons_zero, List.set_cons_succ, i64_w, i32_w]
                 rfl
                refine one_ (i := 9) (N := some 44) #[true, true, true, true, true, true, true, true, true, true, false, false] rfl rfl (one_of HT_.out (by kernel_rfl)) (by decide) (fun K hK => ?_)
                refine goes_ Try.func36 (by kernel_rfl) rfl #[.agg #[.int .i64 x123000_2, .int .i64 x123001_2, .int .i64 x123002_2, .int .i64 x123003_2, .int .i64 x123004_2, .int .i64 x123005_2, .int .i64 x123006_2], .agg #[.int .i64 ((rd_T28 x7_2 (ji35)).f0.f0), .int .i64 ((rd_T28 x7_2 (ji35)).f0.f1), .int .i64 ((rd_T28 x7_2 (ji35)).f0.f2), .int .i64 ((rd_T28 x7_2 (ji35)).f1.f0), .int .i64 ((rd_T28 x7_2 (ji35)).f1.f1), .int .i64 ((rd_T28 x7_2 (ji35)).f2), .int .i64 ((rd_T28 x7_2 (ji35)).f3)]] (by rfl) rfl rfl (by (try simp only [List.map_toArray, List.map_cons, List.map_nil]); first | done | (simp only [hji35]; rfl) | rfl | (simp only [List.length_drop, List.length_take]; rfl)) ?_
                with_reducible refine (line_meet.calls x123000_2 x123001_2 x123002_2 x123003_2 x123004_2 x123005_2 x123006_2 ((rd_T28 x7_2 (ji35)).f0.f0) ((rd_T28 x7_2 (ji35)).f0.f1) ((rd_T28 x7_2 (ji35)).f0.f2) ((rd_T28 x7_2 (ji35)).f1.f0) ((rd_T28 x7_2 (ji35)).f1.f1) ((rd_T28 x7_2 (ji35)).f2) ((rd_T28 x7_2 (ji35)).f3) t136 _ A38.out).mono ?_
                rintro e w46 ⟨rfl, hb⟩
                have HS7_ := (hb.cell (World.block_lt_of_cell? _ _ (hHeld.2.2.2.2.2.2.2.1))).trans (hHeld.2.2.2.2.2.2.2.1)
                have HS8_ := (hb.cell (World.block_lt_of_cell? _ _ (hHeld.2.2.2.2.2.2.2.2.1))).trans (hHeld.2.2.2.2.2.2.2.2.1)
                have HS9_ := (hb.cell (World.block_lt_of_cell? _ _ (hHeld.2.2.2.2.2.2.2.2.2.1))).trans (hHeld.2.2.2.2.2.2.2.2.2.1)
                have HS10_ := (hb.cell (World.block_lt_of_cell? _ _ (hHeld.2.2.2.2.2.2.2.2.2.2.1))).trans (hHeld.2.2.2.2.2.2.2.2.2.2.1)
                have HS11_ := (hb.cell (World.block_lt_of_cell? _ _ (hHeld.2.2.2.2.2.2.2.2.2.2.2.1))).trans (hHeld.2.2.2.2.2.2.2.2.2.2.2.1)
                have HS12_ := (hb.cell (World.block_lt_of_cell? _ _ (hHeld.2.2.2.2.2.2.2.2.2.2.2.2.1))).trans (hHeld.2.2.2.2.2.2.2.2.2.2.2.2.1)
                have HS13_ := (hb.cell (World.block_lt_of_cell? _ _ (hHeld.2.2.2.2.2.2.2.2.2.2.2.2.2))).trans (hHeld.2.2.2.2.2.2.2.2.2.2.2.2.2)
                refine ⟨_, rfl, ?_⟩
                have n0_ := am (Kd.R_below (zR HO_7.out) hb)
                have n1_ := am (blk_below (zB BK122.out) hb)
                have n2_ := am (below_step (zL HB.out) hb)
                clear HO_7 BK122 HB
                have HO_7 := n0_
                have BK122 := n1_
                have HB := n2_
                clear n0_ n1_ n2_
                (try clear hb)
                (try clear hb2)
                (try clear hk)
                (try clear hi)
                refine hK.out _ _ ⟨(blk_cell BK122.out 0).trans rfl, (blk_cell BK122.out 1).trans rfl, (blk_cell BK122.out 2).trans rfl, (blk_cell BK122.out 3).trans rfl, (blk_cell BK122.out 4).trans rfl, (blk_cell BK122.out 5).trans rfl, (blk_cell BK122.out 6).trans rfl, HS7_, HS8_, HS9_, HS10_, HS11_, HS12_, HS13_⟩ (fun hHeld => ?_)
                clear hK K
                refine norm_ (a' := ?_) ?_ ?_
                rotate_left
                ·show Act.put _ (some 44) _ = _
                 simp only [Act.put, List.setIfInBounds_toArray, List.set_cons_zero, List.set_cons_succ, i64_w, i32_w]
                 rfl
                refine pure_ (i := 10) (N := some 45) (v := ?_) (a' := ?_) #[true, true, true, true, true, true, true, true, true, true, true, false] rfl rfl (any_of HT_.out (by kernel_rfl)) (fun _ _ _ h => h) (Or.inl ⟨by rfl, ?_⟩) ?_ ?_
                rotate_left
                ·intro w'
                 go_simp
                 with_reducible rfl
                rotate_left
                ·simp only [Act.put, List.setIfInBounds_toArray, List.set_cons_zero, List.set_cons_succ, i64_w, i32_w]
                 rfl
                refine pure_ (i := 11) (N := some 46) (v := ?_) (a' := ?_) #[true, true, true, true, true, true, true, true, true, true, true, true] rfl rfl (any_of HT_.out (by kernel_rfl)) (fun _ _ _ h => h) (Or.inl ⟨by rfl, ?_⟩) ?_ ?_
                rotate_left
                ·intro w'
                 go_simp
                 with_reducible rfl
                rotate_left
                ·simp only [Act.put, List.setIfInBounds_toArray, List.set_cons_zero, List.set_cons_succ, i64_w, i32_w]
                 rfl
                refine done_ (done_of HT_.out (by kernel_rfl)) ?_
                have p137 : 0 ≤ ((ji35) : Int) := of_decide_eq_true (by first | (with_reducible assumption) | assumption)
                have q137 : (ji35) < (x7_2.length : Int) := of_decide_eq_true (by first | (with_reducible assumption) | assumption)
                obtain ⟨ad137, e137, hx137_0, hx137_1, hx137_2, hx137_3, hx137_4, hx137_5, hx137_6⟩ := at_T28 (Kd.R_reads' HO_7.out).2.2 (ji35) p137 q137
                obtain rfl : ad135 = ad137 := (by injection e137)
                replace p137 := eq_true p137
                replace q137 := eq_true q137
                have p42 : 0 ≤ (x8_2 : Int) := of_decide_eq_true (by first | (with_reducible assumption) | assumption)
                have q42 : (x8_2 : Int) < ((x7_2.length : Int) : Int) := of_decide_eq_true (by first | (with_reducible assumption) | assumption)
                obtain ⟨go42, co42, eo42, gb42, gl42, cl42, HG42⟩ := Kd.R_form HO_7.out (by omega)
                (first | cases eo42 | (injection eo42 with ea_ en_ ec_; (first | subst ea_ | (injection ea_ with ea_; subst ea_)); subst ec_; clear en_))
                have GB42 := Aside0.mk gb42
                have GG42 := Aside0.mk HG42
                clear gb42 gl42 HG42
                (first | simp only [add_plain] at hx135_0 | skip)
                (first | simp only [add_plain] at hx135_1 | skip)
                (first | simp only [add_plain] at hx135_2 | skip)
                (first | simp only [add_plain] at hx135_3 | skip)
                (first | simp only [add_plain] at hx135_4 | skip)
                (first | simp only [add_plain] at hx135_5 | skip)
                (first | simp only [add_plain] at hx135_6 | skip)
                (first | simp only [add_plain] at hx137_0 | skip)
                (first | simp only [add_plain] at hx137_1 | skip)
                (first | simp only [add_plain] at hx137_2 | skip)
                (first | simp only [add_plain] at hx137_3 | skip)
                (first | simp only [add_plain] at hx137_4 | skip)
                (first | simp only [add_plain] at hx137_5 | skip)
                (first | simp only [add_plain] at hx137_6 | skip)
                obtain ⟨ce42, hcl42, hM42, hcc42, hfr42⟩ := Kd.R_elem HO_7.out z28 (x8_2 : Int) p42 q42
                obtain rfl := k28_openM hM42
                have hx42_0 : w46.cell? ⟨go42, (x8_2 : Int).toNat * 7, none⟩ = some (.int .i64 ((rd_T28 x7_2 x8_2).f0.f0)) := hcc42 0 _ rfl
                have hx42_1 : w46.cell? ⟨go42, (x8_2 : Int).toNat * 7 + 1, none⟩ = some (.int .i64 ((rd_T28 x7_2 x8_2).f0.f1)) := hcc42 1 _ rfl
                have hx42_2 : w46.cell? ⟨go42, (x8_2 : Int).toNat * 7 + 2, none⟩ = some (.int .i64 ((rd_T28 x7_2 x8_2).f0.f2)) := hcc42 2 _ rfl
                have hx42_3 : w46.cell? ⟨go42, (x8_2 : Int).toNat * 7 + 3, none⟩ = some (.int .i64 ((rd_T28 x7_2 x8_2).f1.f0)) := hcc42 3 _ rfl
                have hx42_4 : w46.cell? ⟨go42, (x8_2 : Int).toNat * 7 + 4, none⟩ = some (.int .i64 ((rd_T28 x7_2 x8_2).f1.f1)) := hcc42 4 _ rfl
                have hx42_5 : w46.cell? ⟨go42, (x8_2 : Int).toNat * 7 + 5, none⟩ = some (.int .i64 ((rd_T28 x7_2 x8_2).f2)) := hcc42 5 _ rfl
                have hx42_6 : w46.cell? ⟨go42, (x8_2 : Int).toNat * 7 + 6, none⟩ = some (.int .i64 ((rd_T28 x7_2 x8_2).f3)) := hcc42 6 _ rfl
                have hf42_0 : w46.frozen? ⟨go42, (x8_2 : Int).toNat * 7, none⟩ = false := hfr42 0
                have hf42_1 : w46.frozen? ⟨go42, (x8_2 : Int).toNat * 7 + 1, none⟩ = false := hfr42 1
                have hf42_2 : w46.frozen? ⟨go42, (x8_2 : Int).toNat * 7 + 2, none⟩ = false := hfr42 2
                have hf42_3 : w46.frozen? ⟨go42, (x8_2 : Int).toNat * 7 + 3, none⟩ = false := hfr42 3
                have hf42_4 : w46.frozen? ⟨go42, (x8_2 : Int).toNat * 7 + 4, none⟩ = false := hfr42 4
                have hf42_5 : w46.frozen? ⟨go42, (x8_2 : Int).toNat * 7 + 5, none⟩ = false := hfr42 5
                have hf42_6 : w46.frozen? ⟨go42, (x8_2 : Int).toNat * 7 + 6, none⟩ = false := hfr42 6
                clear hcl42 hcc42 hfr42; (try clear hM42)
                replace p42 := eq_true p42
                replace q42 := eq_true q42
                have HX47 := am (show Kd.R k28 28 w46 w.heap.size (fun k_ => k_ ≠ gb122) (.slice (some ⟨go42, 0, none⟩) x7_2.length co45) x7_2 from (zR HO_7.out))
                obtain ⟨ce47, hcl47, hM47, hcc47, hfr47⟩ := Kd.R_elem HX47.out z28 (x8_2 : Int) (of_decide_eq_true (by first | (with_reducible assumption) | assumption)) (by have h_ : (x8_2 : Int) < ((x7_2.length : Int) : Int) := of_decide_eq_true (by first | (with_reducible assumption) | assumption); first | exact h_ | (have e_ := (Kd.R_reads' HO_7.out).1; omega) | simpa using h_)
                obtain rfl := k28_openM hM47
                have HP47 := Kd.R_seg HX47.out (x8_2 : Int) (of_decide_eq_true (by first | (with_reducible assumption) | assumption)) (by have h_ : (x8_2 : Int) < ((x7_2.length : Int) : Int) := of_decide_eq_true (by first | (with_reducible assumption) | assumption); first | exact h_ | (have e_ := (Kd.R_reads' HO_7.out).1; omega) | simpa using h_) (seg := [.int .i64 ((rd_T28 x7_2 (ji35)).f0.f0), .int .i64 ((rd_T28 x7_2 (ji35)).f0.f1), .int .i64 ((rd_T28 x7_2 (ji35)).f0.f2), .int .i64 ((rd_T28 x7_2 (ji35)).f1.f0), .int .i64 ((rd_T28 x7_2 (ji35)).f1.f1), .int .i64 ((rd_T28 x7_2 (ji35)).f2), .int .i64 ((rd_T28 x7_2 (ji35)).f3)]) (j := 0) hcl47 hcc47 (show 7 ≤ 7 from by decide) (x' := (⟨(⟨(rd_T28 x7_2 (ji35)).f0.f0, (rd_T28 x7_2 (ji35)).f0.f1, (rd_T28 x7_2 (ji35)).f0.f2⟩ : S24), (⟨(rd_T28 x7_2 (ji35)).f1.f0, (rd_T28 x7_2 (ji35)).f1.f1⟩ : S26), (rd_T28 x7_2 (ji35)).f2, (rd_T28 x7_2 (ji35)).f3⟩ : S28)) (k28_mkM _ _ _ (⟨(⟨(rd_T28 x7_2 (ji35)).f0.f0, (rd_T28 x7_2 (ji35)).f0.f1, (rd_T28 x7_2 (ji35)).f0.f2⟩ : S24), (⟨(rd_T28 x7_2 (ji35)).f1.f0, (rd_T28 x7_2 (ji35)).f1.f1⟩ : S26), (rd_T28 x7_2 (ji35)).f2, (rd_T28 x7_2 (ji35)).f3⟩ : S28) ) (fun _ hk => hk)
                have hx47_0 := hcc47 0 _ rfl
                (try simp only [show (k28).sz = 7 from rfl, Nat.mul_one, Nat.add_zero] at hx47_0)
                have hf47_0 := hfr47 0
                (try simp only [show (k28).sz = 7 from rfl, Nat.mul_one, Nat.add_zero] at hf47_0)
                have hx47_1 := hcc47 1 _ rfl
                (try simp only [show (k28).sz = 7 from rfl, Nat.mul_one, Nat.add_zero] at hx47_1)
                have hf47_1 := hfr47 1
                (try simp only [show (k28).sz = 7 from rfl, Nat.mul_one, Nat.add_zero] at hf47_1)
                have hx47_2 := hcc47 2 _ rfl
                (try simp only [show (k28).sz = 7 from rfl, Nat.mul_one, Nat.add_zero] at hx47_2)
                have hf47_2 := hfr47 2
                (try simp only [show (k28).sz = 7 from rfl, Nat.mul_one, Nat.add_zero] at hf47_2)
                have hx47_3 := hcc47 3 _ rfl
                (try simp only [show (k28).sz = 7 from rfl, Nat.mul_one, Nat.add_zero] at hx47_3)
                have hf47_3 := hfr47 3
                (try simp only [show (k28).sz = 7 from rfl, Nat.mul_one, Nat.add_zero] at hf47_3)
                have hx47_4 := hcc47 4 _ rfl
                (try simp only [show (k28).sz = 7 from rfl, Nat.mul_one, Nat.add_zero] at hx47_4)
                have hf47_4 := hfr47 4
                (try simp only [show (k28).sz = 7 from rfl, Nat.mul_one, Nat.add_zero] at hf47_4)
                have hx47_5 := hcc47 5 _ rfl
                (try simp only [show (k28).sz = 7 from rfl, Nat.mul_one, Nat.add_zero] at hx47_5)
                have hf47_5 := hfr47 5
                (try simp only [show (k28).sz = 7 from rfl, Nat.mul_one, Nat.add_zero] at hf47_5)
                have hx47_6 := hcc47 6 _ rfl
                (try simp only [show (k28).sz = 7 from rfl, Nat.mul_one, Nat.add_zero] at hx47_6)
                have hf47_6 := hfr47 6
                (try simp only [show (k28).sz = 7 from rfl, Nat.mul_one, Nat.add_zero] at hf47_6)
                clear hcl47 hcc47 hfr47; (try clear hM47)
                try go_wp2_with (first | ((with_reducible refine gate_store (t := 28) (p := 54) rfl ?_); refine store_event (t := 28) (p := 54) (v := ?vo_w48) (w1 := (((((((w46.setCell ⟨go42, (x8_2 : Int).toNat * 7, none⟩ (.int .i64 ((rd_T28 x7_2 (ji35)).f0.f0))).setCell ⟨go42, (x8_2 : Int).toNat * 7 + 1, none⟩ (.int .i64 ((rd_T28 x7_2 (ji35)).f0.f1))).setCell ⟨go42, (x8_2 : Int).toNat * 7 + 2, none⟩ (.int .i64 ((rd_T28 x7_2 (ji35)).f0.f2))).setCell ⟨go42, (x8_2 : Int).toNat * 7 + 3, none⟩ (.int .i64 ((rd_T28 x7_2 (ji35)).f1.f0))).setCell ⟨go42, (x8_2 : Int).toNat * 7 + 4, none⟩ (.int .i64 ((rd_T28 x7_2 (ji35)).f1.f1))).setCell ⟨go42, (x8_2 : Int).toNat * 7 + 5, none⟩ (.int .i64 ((rd_T28 x7_2 (ji35)).f2))).setCell ⟨go42, (x8_2 : Int).toNat * 7 + 6, none⟩ (.int .i64 ((rd_T28 x7_2 (ji35)).f3)))) ?hg ?ho ?hn ?hr ?_; (case ho => rfl); (case hg => rfl); (case hn => rfl); (case hr => first | (go_simp; done) | (go_simp; rfl)); intro w48 hw; have hg : w46.grownBy w48 (some go42) := (by rw [hw]; exact HP47.2); have hp_ : Kd.R k28 28 w48 w.heap.size (fun k_ => k_ ≠ gb122) (.slice (some ⟨go42, 0, none⟩) x7_2.length co45) y138 := (by rw [hw, Ny138.out]; exact HP47.1); clear HP47; have n0_ := am (hp_); have n1_ := am (blk_grown (g := gb122) (o := .cells #[.int .i64 x123000_2, .int .i64 x123001_2, .int .i64 x123002_2, .int .i64 x123003_2, .int .i64 x123004_2, .int .i64 x123005_2, .int .i64 x123006_2] 28 (0, 0)) (zB BK122.out) hg (Kd.R_away HO_7.out (fun _ hk => hk))); have n2_ := am ((by rw [hw]; exact below_set (below_set (below_set (below_set (below_set (below_set (below_set (HB.out) GB42.out) GB42.out) GB42.out) GB42.out) GB42.out) GB42.out) GB42.out : Below w.heap.size w w48)); clear HO_7 BK122 HB; have HO_7 := n0_; have BK122 := n1_; have HB := n2_; clear n0_ n1_ n2_; clear hg hw hp_; have p139 : 0 ≤ (x8_2 : Int) := of_decide_eq_true (by first | (with_reducible assumption) | assumption); have q139 : x8_2 < (y138.length : Int) := (by have h_ : (x8_2 : Int) < ((x7_2.length : Int) : Int) := of_decide_eq_true (by first | (with_reducible assumption) | assumption); first | (have e_ := (Kd.R_reads' HO_7.out).1; omega) | simpa only [Ny138.out, List.length_set] using h_); have ql139 : ((x8_2 : Int) < ((x7_2.length : Int) : Int)) = True := eq_true (of_decide_eq_true (by first | (with_reducible assumption) | assumption)); obtain ⟨ad139, e139, hx139_0, hx139_1, hx139_2, hx139_3, hx139_4, hx139_5, hx139_6⟩ := at_T28 (Kd.R_reads' HO_7.out).2.2 x8_2 p139 q139; obtain rfl : (⟨go42, 0, none⟩ : Addr) = ad139 := (by injection e139); (first | simp only [add_plain] at hx139_0 | simp only [add_at] at hx139_0 | simp only [Addr.add, Nat.zero_add] at hx139_0 | skip); (first | simp only [add_plain] at hx139_1 | simp only [add_at] at hx139_1 | simp only [Addr.add, Nat.zero_add] at hx139_1 | skip); (first | simp only [add_plain] at hx139_2 | simp only [add_at] at hx139_2 | simp only [Addr.add, Nat.zero_add] at hx139_2 | skip); (first | simp only [add_plain] at hx139_3 | simp only [add_at] at hx139_3 | simp only [Addr.add, Nat.zero_add] at hx139_3 | skip); (first | simp only [add_plain] at hx139_4 | simp only [add_at] at hx139_4 | simp only [Addr.add, Nat.zero_add] at hx139_4 | skip); (first | simp only [add_plain] at hx139_5 | simp only [add_at] at hx139_5 | simp only [Addr.add, Nat.zero_add] at hx139_5 | skip); (first | simp only [add_plain] at hx139_6 | simp only [add_at] at hx139_6 | simp only [Addr.add, Nat.zero_add] at hx139_6 | skip); replace p139 := eq_true p139; replace q139 := eq_true q139; have p43 : 0 ≤ (x8_2 : Int) := of_decide_eq_true (by first | (with_reducible assumption) | assumption); have q43 : (x8_2 : Int) < ((x7_2.length : Int) : Int) := of_decide_eq_true (by first | (with_reducible assumption) | assumption); obtain ⟨ce43, hcl43, hM43, hcc43, hfr43⟩ := Kd.R_elem HO_7.out z28 (x8_2 : Int) p43 q43; obtain rfl := k28_openM hM43; have hx43_0 : w48.cell? ⟨go42, (x8_2 : Int).toNat * 7, none⟩ = some (.int .i64 ((rd_T28 y138 x8_2).f0.f0)) := hcc43 0 _ rfl; have hx43_1 : w48.cell? ⟨go42, (x8_2 : Int).toNat * 7 + 1, none⟩ = some (.int .i64 ((rd_T28 y138 x8_2).f0.f1)) := hcc43 1 _ rfl; have hx43_2 : w48.cell? ⟨go42, (x8_2 : Int).toNat * 7 + 2, none⟩ = some (.int .i64 ((rd_T28 y138 x8_2).f0.f2)) := hcc43 2 _ rfl; have hx43_3 : w48.cell? ⟨go42, (x8_2 : Int).toNat * 7 + 3, none⟩ = some (.int .i64 ((rd_T28 y138 x8_2).f1.f0)) := hcc43 3 _ rfl; have hx43_4 : w48.cell? ⟨go42, (x8_2 : Int).toNat * 7 + 4, none⟩ = some (.int .i64 ((rd_T28 y138 x8_2).f1.f1)) := hcc43 4 _ rfl; have hx43_5 : w48.cell? ⟨go42, (x8_2 : Int).toNat * 7 + 5, none⟩ = some (.int .i64 ((rd_T28 y138 x8_2).f2)) := hcc43 5 _ rfl; have hx43_6 : w48.cell? ⟨go42, (x8_2 : Int).toNat * 7 + 6, none⟩ = some (.int .i64 ((rd_T28 y138 x8_2).f3)) := hcc43 6 _ rfl; have hf43_0 : w48.frozen? ⟨go42, (x8_2 : Int).toNat * 7, none⟩ = false := hfr43 0; have hf43_1 : w48.frozen? ⟨go42, (x8_2 : Int).toNat * 7 + 1, none⟩ = false := hfr43 1; have hf43_2 : w48.frozen? ⟨go42, (x8_2 : Int).toNat * 7 + 2, none⟩ = false := hfr43 2; have hf43_3 : w48.frozen? ⟨go42, (x8_2 : Int).toNat * 7 + 3, none⟩ = false := hfr43 3; have hf43_4 : w48.frozen? ⟨go42, (x8_2 : Int).toNat * 7 + 4, none⟩ = false := hfr43 4; have hf43_5 : w48.frozen? ⟨go42, (x8_2 : Int).toNat * 7 + 5, none⟩ = false := hfr43 5; have hf43_6 : w48.frozen? ⟨go42, (x8_2 : Int).toNat * 7 + 6, none⟩ = false := hfr43 6; clear hcl43 hcc43 hfr43; (try clear hM43); replace p43 := eq_true p43; replace q43 := eq_true q43; have HX49 := am (show Kd.R k28 28 w48 w.heap.size (fun k_ => k_ ≠ gb122) (.slice (some ⟨go42, 0, none⟩) x7_2.length co45) y138 from (zR HO_7.out)); obtain ⟨ce49, hcl49, hM49, hcc49, hfr49⟩ := Kd.R_elem HX49.out z28 (x8_2 : Int) (of_decide_eq_true (by first | (with_reducible assumption) | assumption)) (by have h_ : (x8_2 : Int) < ((x7_2.length : Int) : Int) := of_decide_eq_true (by first | (with_reducible assumption) | assumption); first | exact h_ | (have e_ := (Kd.R_reads' HO_7.out).1; omega) | simpa using h_); obtain rfl := k28_openM hM49; have HP49 := Kd.R_seg HX49.out (x8_2 : Int) (of_decide_eq_true (by first | (with_reducible assumption) | assumption)) (by have h_ : (x8_2 : Int) < ((x7_2.length : Int) : Int) := of_decide_eq_true (by first | (with_reducible assumption) | assumption); first | exact h_ | (have e_ := (Kd.R_reads' HO_7.out).1; omega) | simpa using h_) (seg := [.int .i64 (wrap64 (((rd_T28 y138 x8_2).f3) + 1))]) (j := 6) hcl49 hcc49 (show 7 ≤ 7 from by decide) (x' := (⟨(⟨(rd_T28 y138 x8_2).f0.f0, (rd_T28 y138 x8_2).f0.f1, (rd_T28 y138 x8_2).f0.f2⟩ : S24), (⟨(rd_T28 y138 x8_2).f1.f0, (rd_T28 y138 x8_2).f1.f1⟩ : S26), (rd_T28 y138 x8_2).f2, wrap64 (((rd_T28 y138 x8_2).f3) + 1)⟩ : S28)) (k28_mkM _ _ _ (⟨(⟨(rd_T28 y138 x8_2).f0.f0, (rd_T28 y138 x8_2).f0.f1, (rd_T28 y138 x8_2).f0.f2⟩ : S24), (⟨(rd_T28 y138 x8_2).f1.f0, (rd_T28 y138 x8_2).f1.f1⟩ : S26), (rd_T28 y138 x8_2).f2, wrap64 (((rd_T28 y138 x8_2).f3) + 1)⟩ : S28) ) (fun _ hk => hk); have hx49_6 := hcc49 6 _ rfl; (try simp only [show (k28).sz = 7 from rfl, Nat.mul_one, Nat.add_zero] at hx49_6); have hf49_6 := hfr49 6; (try simp only [show (k28).sz = 7 from rfl, Nat.mul_one, Nat.add_zero] at hf49_6); clear hcl49 hcc49 hfr49; (try clear hM49)) | ((with_reducible refine gate_store (t := 3) (p := 62) rfl ?_); refine store_event (t := 3) (p := 62) (v := ?vo_w50) (w1 := (w48.setCell ⟨go42, (x8_2 : Int).toNat * 7 + 6, none⟩ (.int .i64 (wrap64 (((rd_T28 y138 x8_2).f3) + 1))))) ?hg ?ho ?hn ?hr ?_; (case ho => rfl); (case hg => rfl); (case hn => rfl); (case hr => first | (go_simp; done) | (go_simp; rfl)); intro w50 hw; have hg : w48.grownBy w50 (some go42) := (by rw [hw]; exact HP49.2); have hp_ : Kd.R k28 28 w50 w.heap.size (fun k_ => k_ ≠ gb122) (.slice (some ⟨go42, 0, none⟩) x7_2.length co45) y140 := (by rw [hw, Ny140.out]; exact HP49.1); clear HP49; have n0_ := am (hp_); have n1_ := am (blk_grown (g := gb122) (o := .cells #[.int .i64 x123000_2, .int .i64 x123001_2, .int .i64 x123002_2, .int .i64 x123003_2, .int .i64 x123004_2, .int .i64 x123005_2, .int .i64 x123006_2] 28 (0, 0)) (zB BK122.out) hg (Kd.R_away HO_7.out (fun _ hk => hk))); have n2_ := am ((by rw [hw]; exact below_set (HB.out) GB42.out : Below w.heap.size w w50)); clear HO_7 BK122 HB; have HO_7 := n0_; have BK122 := n1_; have HB := n2_; clear n0_ n1_ n2_; clear hg hw hp_))
                go_roundg k2
                case measure => have := HJ4.out; have := HK2.out; omega
                case rel => exact ⟨(y140), (ji35), (x123000_2), (x123001_2), (x123002_2), (x123003_2), (x123004_2), (x123005_2), (x123006_2), (by first | rfl | (simp; done) | (simp only [← hji35] <;> (first | rfl | simp)) | (simp [*]; done)), H', ⟨by have := HJ4.out; have := HK2.out; omega⟩, ⟨by exact zR HO_7.out⟩, ⟨by exact zB <| BK122.out⟩, ⟨by repeat (first | (with_reducible first | exact HB.out | apply ba | apply bd | apply be | refine below_set ?_ GE122.out) | exact HB.out)⟩⟩
               ·rw [if_neg c41] at H
                exact absurd H (by simp)
              ·rw [if_neg c40] at H
               exact absurd H (by simp)
             ·rw [if_neg c39] at H
              have c39b0 : (t136 == 1) = false := beq_eq_false_iff_ne.mpr c39
              have c39b1 : (t136 != 1) = true := bne_iff_ne.mpr c39
              by_cases c51 : 0 ≤ x8_2
              ·rw [if_pos c51] at H
               have c51b0 : decide (0 ≤ x8_2) = true := decide_eq_true c51
               clear c51
               by_cases c52 : x8_2 < (x7_2.length : Int)
               ·rw [if_pos c52] at H
                have c52b0 : decide (x8_2 < (x7_2.length : Int)) = true := decide_eq_true c52
                clear c52
                obtain ⟨y141, hy141⟩ : ∃ y_ : List (S28), y_ = (x7_2.set (x8_2 : Int).toNat (⟨(⟨x123000_2, x123001_2, x123002_2⟩ : S24), (⟨x123003_2, x123004_2⟩ : S26), x123005_2, x123006_2⟩ : S28)) := ⟨_, rfl⟩
                replace H : (some (y141, x8_2, 0)) = some (r1, r2, r3) := by first | (rw [hy141]; with_reducible exact H) | (have H2_ := (Option.bind_some _ _).symm.trans H; rw [hy141]; with_reducible exact H2_) | (have H2_ := (Option.bind_some _ _).symm.trans H; with_reducible exact H2_) | with_reducible exact H | (rw [hy141]; exact H) | exact H
                have Ny141 := Aside0.mk hy141
                clear hy141
                simp only [Option.some.injEq, Prod.mk.injEq] at H
                obtain ⟨rfl, rfl, rfl⟩ := H
                try go_wp2
                have n0_ := am (Kd.R_drew HO_7.out)
                have n1_ := am (blk_drew BK122.out)
                have n2_ := am (below_drew1 HB.out)
                clear HO_7 BK122 HB
                have HO_7 := n0_
                have BK122 := n1_
                have HB := n2_
                clear n0_ n1_ n2_
                obtain ⟨Ao55, co55, eo55⟩ := Kd.R_slice HO_7.out
                (first | subst eo55 | (injection eo55 with f1_ f2_ f3_; have f4_ := f1_.symm; have f5_ := f3_.symm; clear f1_ f2_ f3_; subst f4_; subst f5_))
                have p135 : 0 ≤ ((ji35) : Int) := of_decide_eq_true (by first | (with_reducible assumption) | assumption)
                have q135 : (ji35) < (x7_2.length : Int) := of_decide_eq_true (by first | (with_reducible assumption) | assumption)
                obtain ⟨ad135, e135, hx135_0, hx135_1, hx135_2, hx135_3, hx135_4, hx135_5, hx135_6⟩ := at_T28 (Kd.R_reads' HO_7.out).2.2 (ji35) p135 q135
                cases e135
                replace p135 := eq_true p135
                replace q135 := eq_true q135
                refine start_ (n := 12) (S := fun w' => w'.cell? ⟨gb122, 0, none⟩ = some (.int .i64 x123000_2) ∧ w'.cell? ⟨gb122, 1, none⟩ = some (.int .i64 x123001_2) ∧ w'.cell? ⟨gb122, 2, none⟩ = some (.int .i64 x123002_2) ∧ w'.cell? ⟨gb122, 3, none⟩ = some (.int .i64 x123003_2) ∧ w'.cell? ⟨gb122, 4, none⟩ = some (.int .i64 x123004_2) ∧ w'.cell? ⟨gb122, 5, none⟩ = some (.int .i64 x123005_2) ∧ w'.cell? ⟨gb122, 6, none⟩ = some (.int .i64 x123006_2) ∧ w'.cell? (ad135.add (((ji35)).toNat * 7)) = some (.int .i64 ((rd_T28 x7_2 (ji35)).f0.f0)) ∧ w'.cell? ⟨(ad135.add (((ji35)).toNat * 7)).block, (ad135.add (((ji35)).toNat * 7)).off + 1, none⟩ = some (.int .i64 ((rd_T28 x7_2 (ji35)).f0.f1)) ∧ w'.cell? ⟨(ad135.add (((ji35)).toNat * 7)).block, (ad135.add (((ji35)).toNat * 7)).off + 2, none⟩ = some (.int .i64 ((rd_T28 x7_2 (ji35)).f0.f2)) ∧ w'.cell? ⟨(ad135.add (((ji35)).toNat * 7)).block, (ad135.add (((ji35)).toNat * 7)).off + 3, none⟩ = some (.int .i64 ((rd_T28 x7_2 (ji35)).f1.f0)) ∧ w'.cell? ⟨(ad135.add (((ji35)).toNat * 7)).block, (ad135.add (((ji35)).toNat * 7)).off + 4, none⟩ = some (.int .i64 ((rd_T28 x7_2 (ji35)).f1.f1)) ∧ w'.cell? ⟨(ad135.add (((ji35)).toNat * 7)).block, (ad135.add (((ji35)).toNat * 7)).off + 5, none⟩ = some (.int .i64 ((rd_T28 x7_2 (ji35)).f2)) ∧ w'.cell? ⟨(ad135.add (((ji35)).toNat * 7)).block, (ad135.add (((ji35)).toNat * 7)).off + 6, none⟩ = some (.int .i64 ((rd_T28 x7_2 (ji35)).f3))) (ds := []) #[false, false, false, false, false, false, false, false, false, false, false, false] (by kernel_rfl) rfl rfl ⟨(blk_cell BK122.out 0).trans rfl, (blk_cell BK122.out 1).trans rfl, (blk_cell BK122.out 2).trans rfl, (blk_cell BK122.out 3).trans rfl, (blk_cell BK122.out 4).trans rfl, (blk_cell BK122.out 5).trans rfl, (blk_cell BK122.out 6).trans rfl, hx135_0, hx135_1, hx135_2, hx135_3, hx135_4, hx135_5, hx135_6⟩ (fun hHeld => ?_); refine with_tabW line_Insert.tab11 line_Insert.bits11 (fun HT_ HW_ => ?_)
                generalize wr.drew = w54 at HO_7 BK122 HB hx135_0 hx135_1 hx135_2 hx135_3 hx135_4 hx135_5 hx135_6 hHeld ⊢
                refine pure_ (i := 0) (N := some 35) (v := ?_) (a' := ?_) #[true, false, false, false, false, false, false, false, false, false, false, false] rfl rfl (any_of HT_.out (by kernel_rfl)) (fun _ _ _ h => h) (Or.inl ⟨by rfl, ?_⟩) ?_ ?_
                rotate_left
                ·intro w'
                 go_simp
                 with_reducible rfl
                rotate_left
                ·simp only [Act.put, List.setIfInBounds_toArray, List.set_cons_zero, List.set_cons_succ, i64_w, i32_w]
                 rfl
                refine pure_ (i := 1) (N := some 36) (v := ?_) (a' := ?_) #[true, true, false, false, false, false, false, false, false, false, false, false] rfl rfl (any_of HT_.out (by kernel_rfl)) (fun _ _ _ h => h) (Or.inl ⟨by rfl, ?_⟩) ?_ ?_
                rotate_left
                ·intro w'
                 go_simp
                 with_reducible rfl
                rotate_left
                ·simp only [Act.put, List.setIfInBounds_toArray, List.set_cons_zero, List.set_cons_succ, i64_w, i32_w]
                 rfl
                refine pure_ (i := 2) (N := some 37) (v := ?_) (a' := ?_) #[true, true, true, false, false, false, false, false, false, false, false, false] rfl rfl (any_of HT_.out (by kernel_rfl)) (fun _ _ _ h => h) (Or.inl ⟨by rfl, ?_⟩) ?_ ?_
                rotate_left
                ·intro w'
                 go_simp
                 with_reducible rfl
                rotate_left
                ·simp only [Act.put, List.setIfInBounds_toArray, List.set_cons_zero, List.set_cons_succ, i64_w, i32_w]
                 rfl
                refine pure_ (i := 4) (N := some 39) (v := ?_) (a' := ?_) #[true, true, true, false, true, false, false, false, false, false, false, false] rfl rfl (any_of HT_.out (by kernel_rfl)) (fun _ _ _ h => h) (Or.inl ⟨by rfl, ?_⟩) ?_ ?_
                rotate_left
                ·intro w'
                 go_simp
                 with_reducible rfl
                rotate_left
                ·simp only [Act.put, List.setIfInBounds_toArray, List.set_cons_zero, List.set_cons_succ, i64_w, i32_w]
                 rfl
                refine pure_ (i := 5) (N := some 40) (v := ?_) (a' := ?_) #[true, true, true, false, true, true, false, false, false, false, false, false] rfl rfl (any_of HT_.out (by kernel_rfl)) (fun _ _ _ h => h) (Or.inl ⟨by rfl, ?_⟩) ?_ ?_
                rotate_left
                ·intro w'
                 go_simp
                 with_reducible rfl
                rotate_left
                ·simp only [Act.put, List.setIfInBounds_toArray, List.set_cons_zero, List.set_cons_succ, i64_w, i32_w]
                 rfl
                refine pure_ (i := 6) (N := some 41) (v := ?_) (a' := ?_) #[true, true, true, false, true, true, true, false, false, false, false, false] rfl rfl (any_of HT_.out (by kernel_rfl)) (fun _ _ _ h => h) (Or.inl ⟨by rfl, ?_⟩) ?_ ?_
                rotate_left
                ·intro w'
                 go_simp
                 with_reducible rfl
                rotate_left
                ·simp only [Act.put, List.setIfInBounds_toArray, List.set_cons_zero, List.set_cons_succ, i64_w, i32_w]
                 rfl
                refine pure_ (i := 7) (N := some 42) (v := ?_) (a' := ?_) #[true, true, true, false, true, true, true, true, false, false, false, false] rfl rfl (any_of HT_.out (by kernel_rfl)) (fun _ _ _ h => h) (Or.inl ⟨by rfl, ?_⟩) ?_ ?_
                rotate_left
                ·intro w'
                 go_simp
                 with_reducible rfl
                rotate_left
                ·simp only [Act.put, List.setIfInBounds_toArray, List.set_cons_zero, List.set_cons_succ, i64_w, i32_w]
                 rfl
                refine take_ (i := 3) (N := some 38) (v := ?_) (a' := ?_) #[true, true, true, true, true, true, true, true, false, false, false, false] rfl rfl (take_ofW HT_.out HW_.out (by kernel_rfl)) (fun _ _ _ h => h) (Or.inl ⟨by rfl, ?_⟩) hHeld ?_ ?_
                rotate_left
                ·rintro w' ⟨s0, s1, s2, s3, s4, s5, s6, s7, s8, s9, s10, s11, s12, s13⟩
                 go_simp
                 with_reducible rfl
                rotate_left
                ·simp only [Act.put, List.setIfInBounds_toArray, List.set_cons_zero, List.set_cons_succ, i64_w, i32_w]
                 rfl
                refine take_ (i := 8) (N := some 43) (v := ?_) (a' := ?_) #[true, true, true, true, true, true, true, true, true, false, false, false] rfl rfl (take_ofW HT_.out HW_.out (by kernel_rfl)) (fun _ _ _ h => h) (Or.inl ⟨by rfl, ?_⟩) hHeld ?_ ?_
                rotate_left
                ·rintro w' ⟨s0, s1, s2, s3, s4, s5, s6, s7, s8, s9, s10, s11, s12, s13⟩
                 go_simp
                 with_reducible rfl
                rotate_left
                ·simp only [Act.put, List.setIfInBounds_toArray, List.set_cons_zero, List.set_cons_succ, i64_w, i32_w]
                 rfl
                refine one_ (i := 9) (N := some 44) #[true, true, true, true, true, true, true, true, true, true, false, false] rfl rfl (one_of HT_.out (by kernel_rfl)) (by decide) (fun K hK => ?_)
                refine goes_ Try.func36 (by kernel_rfl) rfl #[.agg #[.int .i64 x123000_2, .int .i64 x123001_2, .int .i64 x123002_2, .int .i64 x123003_2, .int .i64 x123004_2, .int .i64 x123005_2, .int .i64 x123006_2], .agg #[.int .i64 ((rd_T28 x7_2 (ji35)).f0.f0), .int .i64 ((rd_T28 x7_2 (ji35)).f0.f1), .int .i64 ((rd_T28 x7_2 (ji35)).f0.f2), .int .i64 ((rd_T28 x7_2 (ji35)).f1.f0), .int .i64 ((rd_T28 x7_2 (ji35)).f1.f1), .int .i64 ((rd_T28 x7_2 (ji35)).f2), .int .i64 ((rd_T28 x7_2 (ji35)).f3)]] (by rfl) rfl rfl (by (try simp only [List.map_toArray, List.map_cons, List.map_nil]); first | done | (simp only [hji35]; rfl) | rfl | (simp only [List.length_drop, List.length_take]; rfl)) ?_
                with_reducible refine (line_meet.calls x123000_2 x123001_2 x123002_2 x123003_2 x123004_2 x123005_2 x123006_2 ((rd_T28 x7_2 (ji35)).f0.f0) ((rd_T28 x7_2 (ji35)).f0.f1) ((rd_T28 x7_2 (ji35)).f0.f2) ((rd_T28 x7_2 (ji35)).f1.f0) ((rd_T28 x7_2 (ji35)).f1.f1) ((rd_T28 x7_2 (ji35)).f2) ((rd_T28 x7_2 (ji35)).f3) t136 _ A38.out).mono ?_
                rintro e w56 ⟨rfl, hb⟩
                have HS7_ := (hb.cell (World.block_lt_of_cell? _ _ (hHeld.2.2.2.2.2.2.2.1))).trans (hHeld.2.2.2.2.2.2.2.1)
                have HS8_ := (hb.cell (World.block_lt_of_cell? _ _ (hHeld.2.2.2.2.2.2.2.2.1))).trans (hHeld.2.2.2.2.2.2.2.2.1)
                have HS9_ := (hb.cell (World.block_lt_of_cell? _ _ (hHeld.2.2.2.2.2.2.2.2.2.1))).trans (hHeld.2.2.2.2.2.2.2.2.2.1)
                have HS10_ := (hb.cell (World.block_lt_of_cell? _ _ (hHeld.2.2.2.2.2.2.2.2.2.2.1))).trans (hHeld.2.2.2.2.2.2.2.2.2.2.1)
                have HS11_ := (hb.cell (World.block_lt_of_cell? _ _ (hHeld.2.2.2.2.2.2.2.2.2.2.2.1))).trans (hHeld.2.2.2.2.2.2.2.2.2.2.2.1)
                have HS12_ := (hb.cell (World.block_lt_of_cell? _ _ (hHeld.2.2.2.2.2.2.2.2.2.2.2.2.1))).trans (hHeld.2.2.2.2.2.2.2.2.2.2.2.2.1)
                have HS13_ := (hb.cell (World.block_lt_of_cell? _ _ (hHeld.2.2.2.2.2.2.2.2.2.2.2.2.2))).trans (hHeld.2.2.2.2.2.2.2.2.2.2.2.2.2)
                refine ⟨_, rfl, ?_⟩
                have n0_ := am (Kd.R_below (zR HO_7.out) hb)
                have n1_ := am (blk_below (zB BK122.out) hb)
                have n2_ := am (below_step (zL HB.out) hb)
                clear HO_7 BK122 HB
                have HO_7 := n0_
                have BK122 := n1_
                have HB := n2_
                clear n0_ n1_ n2_
                (try clear hb)
                (try clear hb2)
                (try clear hk)
                (try clear hi)
                refine hK.out _ _ ⟨(blk_cell BK122.out 0).trans rfl, (blk_cell BK122.out 1).trans rfl, (blk_cell BK122.out 2).trans rfl, (blk_cell BK122.out 3).trans rfl, (blk_cell BK122.out 4).trans rfl, (blk_cell BK122.out 5).trans rfl, (blk_cell BK122.out 6).trans rfl, HS7_, HS8_, HS9_, HS10_, HS11_, HS12_, HS13_⟩ (fun hHeld => ?_)
                clear hK K
                refine norm_ (a' := ?_) ?_ ?_
                rotate_left
                ·show Act.put _ (some 44) _ = _
                 simp only [Act.put, List.setIfInBounds_toArray, List.set_cons_zero, List.set_cons_succ, i64_w, i32_w]
                 rfl
                refine pure_ (i := 10) (N := some 45) (v := ?_) (a' := ?_) #[true, true, true, true, true, true, true, true, true, true, true, false] rfl rfl (any_of HT_.out (by kernel_rfl)) (fun _ _ _ h => h) (Or.inl ⟨by rfl, ?_⟩) ?_ ?_
                rotate_left
                ·intro w'
                 go_simp
                 with_reducible rfl
                rotate_left
                ·simp only [Act.put, List.setIfInBounds_toArray, List.set_cons_zero, List.set_cons_succ, i64_w, i32_w]
                 rfl
                refine pure_ (i := 11) (N := some 46) (v := ?_) (a' := ?_) #[true, true, true, true, true, true, true, true, true, true, true, true] rfl rfl (any_of HT_.out (by kernel_rfl)) (fun _ _ _ h => h) (Or.inl ⟨by rfl, ?_⟩) ?_ ?_
                rotate_left
                ·intro w'
                 go_simp
                 with_reducible rfl
                rotate_left
                ·simp only [Act.put, List.setIfInBounds_toArray, List.set_cons_zero, List.set_cons_succ, i64_w, i32_w]
                 rfl
                refine done_ (done_of HT_.out (by kernel_rfl)) ?_
                have hcz57_0 : w56.cell? ⟨gb122, 0, none⟩ = some (.int .i64 x123000_2) := (blk_cell BK122.out 0).trans rfl
                have hcz57_1 : w56.cell? ⟨gb122, 1, none⟩ = some (.int .i64 x123001_2) := (blk_cell BK122.out 1).trans rfl
                have hcz57_2 : w56.cell? ⟨gb122, 2, none⟩ = some (.int .i64 x123002_2) := (blk_cell BK122.out 2).trans rfl
                have hcz57_3 : w56.cell? ⟨gb122, 3, none⟩ = some (.int .i64 x123003_2) := (blk_cell BK122.out 3).trans rfl
                have hcz57_4 : w56.cell? ⟨gb122, 4, none⟩ = some (.int .i64 x123004_2) := (blk_cell BK122.out 4).trans rfl
                have hcz57_5 : w56.cell? ⟨gb122, 5, none⟩ = some (.int .i64 x123005_2) := (blk_cell BK122.out 5).trans rfl
                have hcz57_6 : w56.cell? ⟨gb122, 6, none⟩ = some (.int .i64 x123006_2) := (blk_cell BK122.out 6).trans rfl
                have hfz57_0 := blk_frozen BK122.out 0
                have hfz57_1 := blk_frozen BK122.out 1
                have hfz57_2 := blk_frozen BK122.out 2
                have hfz57_3 := blk_frozen BK122.out 3
                have hfz57_4 := blk_frozen BK122.out 4
                have hfz57_5 := blk_frozen BK122.out 5
                have hfz57_6 := blk_frozen BK122.out 6
                have p53 : 0 ≤ (x8_2 : Int) := of_decide_eq_true (by first | (with_reducible assumption) | assumption)
                have q53 : (x8_2 : Int) < ((x7_2.length : Int) : Int) := of_decide_eq_true (by first | (with_reducible assumption) | assumption)
                obtain ⟨go53, co53, eo53, gb53, gl53, cl53, HG53⟩ := Kd.R_form HO_7.out (by omega)
                (first | cases eo53 | (injection eo53 with ea_ en_ ec_; (first | subst ea_ | (injection ea_ with ea_; subst ea_)); subst ec_; clear en_))
                have GB53 := Aside0.mk gb53
                have GG53 := Aside0.mk HG53
                clear gb53 gl53 HG53
                (first | simp only [add_plain] at hx135_0 | skip)
                (first | simp only [add_plain] at hx135_1 | skip)
                (first | simp only [add_plain] at hx135_2 | skip)
                (first | simp only [add_plain] at hx135_3 | skip)
                (first | simp only [add_plain] at hx135_4 | skip)
                (first | simp only [add_plain] at hx135_5 | skip)
                (first | simp only [add_plain] at hx135_6 | skip)
                obtain ⟨ce53, hcl53, hM53, hcc53, hfr53⟩ := Kd.R_elem HO_7.out z28 (x8_2 : Int) p53 q53
                obtain rfl := k28_openM hM53
                have hx53_0 : w56.cell? ⟨go53, (x8_2 : Int).toNat * 7, none⟩ = some (.int .i64 ((rd_T28 x7_2 x8_2).f0.f0)) := hcc53 0 _ rfl
                have hx53_1 : w56.cell? ⟨go53, (x8_2 : Int).toNat * 7 + 1, none⟩ = some (.int .i64 ((rd_T28 x7_2 x8_2).f0.f1)) := hcc53 1 _ rfl
                have hx53_2 : w56.cell? ⟨go53, (x8_2 : Int).toNat * 7 + 2, none⟩ = some (.int .i64 ((rd_T28 x7_2 x8_2).f0.f2)) := hcc53 2 _ rfl
                have hx53_3 : w56.cell? ⟨go53, (x8_2 : Int).toNat * 7 + 3, none⟩ = some (.int .i64 ((rd_T28 x7_2 x8_2).f1.f0)) := hcc53 3 _ rfl
                have hx53_4 : w56.cell? ⟨go53, (x8_2 : Int).toNat * 7 + 4, none⟩ = some (.int .i64 ((rd_T28 x7_2 x8_2).f1.f1)) := hcc53 4 _ rfl
                have hx53_5 : w56.cell? ⟨go53, (x8_2 : Int).toNat * 7 + 5, none⟩ = some (.int .i64 ((rd_T28 x7_2 x8_2).f2)) := hcc53 5 _ rfl
                have hx53_6 : w56.cell? ⟨go53, (x8_2 : Int).toNat * 7 + 6, none⟩ = some (.int .i64 ((rd_T28 x7_2 x8_2).f3)) := hcc53 6 _ rfl
                have hf53_0 : w56.frozen? ⟨go53, (x8_2 : Int).toNat * 7, none⟩ = false := hfr53 0
                have hf53_1 : w56.frozen? ⟨go53, (x8_2 : Int).toNat * 7 + 1, none⟩ = false := hfr53 1
                have hf53_2 : w56.frozen? ⟨go53, (x8_2 : Int).toNat * 7 + 2, none⟩ = false := hfr53 2
                have hf53_3 : w56.frozen? ⟨go53, (x8_2 : Int).toNat * 7 + 3, none⟩ = false := hfr53 3
                have hf53_4 : w56.frozen? ⟨go53, (x8_2 : Int).toNat * 7 + 4, none⟩ = false := hfr53 4
                have hf53_5 : w56.frozen? ⟨go53, (x8_2 : Int).toNat * 7 + 5, none⟩ = false := hfr53 5
                have hf53_6 : w56.frozen? ⟨go53, (x8_2 : Int).toNat * 7 + 6, none⟩ = false := hfr53 6
                clear hcl53 hcc53 hfr53; (try clear hM53)
                replace p53 := eq_true p53
                replace q53 := eq_true q53
                have HX58 := am (show Kd.R k28 28 w56 w.heap.size (fun k_ => k_ ≠ gb122) (.slice (some ⟨go53, 0, none⟩) x7_2.length co55) x7_2 from (zR HO_7.out))
                obtain ⟨ce58, hcl58, hM58, hcc58, hfr58⟩ := Kd.R_elem HX58.out z28 (x8_2 : Int) (of_decide_eq_true (by first | (with_reducible assumption) | assumption)) (by have h_ : (x8_2 : Int) < ((x7_2.length : Int) : Int) := of_decide_eq_true (by first | (with_reducible assumption) | assumption); first | exact h_ | (have e_ := (Kd.R_reads' HO_7.out).1; omega) | simpa using h_)
                obtain rfl := k28_openM hM58
                have HP58 := Kd.R_seg HX58.out (x8_2 : Int) (of_decide_eq_true (by first | (with_reducible assumption) | assumption)) (by have h_ : (x8_2 : Int) < ((x7_2.length : Int) : Int) := of_decide_eq_true (by first | (with_reducible assumption) | assumption); first | exact h_ | (have e_ := (Kd.R_reads' HO_7.out).1; omega) | simpa using h_) (seg := [.int .i64 x123000_2, .int .i64 x123001_2, .int .i64 x123002_2, .int .i64 x123003_2, .int .i64 x123004_2, .int .i64 x123005_2, .int .i64 x123006_2]) (j := 0) hcl58 hcc58 (show 7 ≤ 7 from by decide) (x' := (⟨(⟨x123000_2, x123001_2, x123002_2⟩ : S24), (⟨x123003_2, x123004_2⟩ : S26), x123005_2, x123006_2⟩ : S28)) (k28_mkM _ _ _ (⟨(⟨x123000_2, x123001_2, x123002_2⟩ : S24), (⟨x123003_2, x123004_2⟩ : S26), x123005_2, x123006_2⟩ : S28) ) (fun _ hk => hk)
                have hx58_0 := hcc58 0 _ rfl
                (try simp only [show (k28).sz = 7 from rfl, Nat.mul_one, Nat.add_zero] at hx58_0)
                have hf58_0 := hfr58 0
                (try simp only [show (k28).sz = 7 from rfl, Nat.mul_one, Nat.add_zero] at hf58_0)
                have hx58_1 := hcc58 1 _ rfl
                (try simp only [show (k28).sz = 7 from rfl, Nat.mul_one, Nat.add_zero] at hx58_1)
                have hf58_1 := hfr58 1
                (try simp only [show (k28).sz = 7 from rfl, Nat.mul_one, Nat.add_zero] at hf58_1)
                have hx58_2 := hcc58 2 _ rfl
                (try simp only [show (k28).sz = 7 from rfl, Nat.mul_one, Nat.add_zero] at hx58_2)
                have hf58_2 := hfr58 2
                (try simp only [show (k28).sz = 7 from rfl, Nat.mul_one, Nat.add_zero] at hf58_2)
                have hx58_3 := hcc58 3 _ rfl
                (try simp only [show (k28).sz = 7 from rfl, Nat.mul_one, Nat.add_zero] at hx58_3)
                have hf58_3 := hfr58 3
                (try simp only [show (k28).sz = 7 from rfl, Nat.mul_one, Nat.add_zero] at hf58_3)
                have hx58_4 := hcc58 4 _ rfl
                (try simp only [show (k28).sz = 7 from rfl, Nat.mul_one, Nat.add_zero] at hx58_4)
                have hf58_4 := hfr58 4
                (try simp only [show (k28).sz = 7 from rfl, Nat.mul_one, Nat.add_zero] at hf58_4)
                have hx58_5 := hcc58 5 _ rfl
                (try simp only [show (k28).sz = 7 from rfl, Nat.mul_one, Nat.add_zero] at hx58_5)
                have hf58_5 := hfr58 5
                (try simp only [show (k28).sz = 7 from rfl, Nat.mul_one, Nat.add_zero] at hf58_5)
                have hx58_6 := hcc58 6 _ rfl
                (try simp only [show (k28).sz = 7 from rfl, Nat.mul_one, Nat.add_zero] at hx58_6)
                have hf58_6 := hfr58 6
                (try simp only [show (k28).sz = 7 from rfl, Nat.mul_one, Nat.add_zero] at hf58_6)
                clear hcl58 hcc58 hfr58; (try clear hM58)
                try go_wp2_with (first | ((with_reducible refine gate_store (t := 28) (p := 68) rfl ?_); refine store_event (t := 28) (p := 68) (v := ?vo_w59) (w1 := (((((((w56.setCell ⟨go53, (x8_2 : Int).toNat * 7, none⟩ (.int .i64 x123000_2)).setCell ⟨go53, (x8_2 : Int).toNat * 7 + 1, none⟩ (.int .i64 x123001_2)).setCell ⟨go53, (x8_2 : Int).toNat * 7 + 2, none⟩ (.int .i64 x123002_2)).setCell ⟨go53, (x8_2 : Int).toNat * 7 + 3, none⟩ (.int .i64 x123003_2)).setCell ⟨go53, (x8_2 : Int).toNat * 7 + 4, none⟩ (.int .i64 x123004_2)).setCell ⟨go53, (x8_2 : Int).toNat * 7 + 5, none⟩ (.int .i64 x123005_2)).setCell ⟨go53, (x8_2 : Int).toNat * 7 + 6, none⟩ (.int .i64 x123006_2))) ?hg ?ho ?hn ?hr ?_; (case ho => rfl); (case hg => rfl); (case hn => rfl); (case hr => first | (go_simp; done) | (go_simp; rfl)); intro w59 hw; have hg : w56.grownBy w59 (some go53) := (by rw [hw]; exact HP58.2); have hp_ : Kd.R k28 28 w59 w.heap.size (fun k_ => k_ ≠ gb122) (.slice (some ⟨go53, 0, none⟩) x7_2.length co55) y141 := (by rw [hw, Ny141.out]; exact HP58.1); clear HP58; have n0_ := am (hp_); have n1_ := am (blk_grown (g := gb122) (o := .cells #[.int .i64 x123000_2, .int .i64 x123001_2, .int .i64 x123002_2, .int .i64 x123003_2, .int .i64 x123004_2, .int .i64 x123005_2, .int .i64 x123006_2] 28 (0, 0)) (zB BK122.out) hg (Kd.R_away HO_7.out (fun _ hk => hk))); have n2_ := am ((by rw [hw]; exact below_set (below_set (below_set (below_set (below_set (below_set (below_set (HB.out) GB53.out) GB53.out) GB53.out) GB53.out) GB53.out) GB53.out) GB53.out : Below w.heap.size w w59)); clear HO_7 BK122 HB; have HO_7 := n0_; have BK122 := n1_; have HB := n2_; clear n0_ n1_ n2_; clear hg hw hp_))
                go_ret3
                exact ⟨_, by first | rfl | (simp [errW_none, errW_some] <;> rfl) | (simp only [← hji35]; first | rfl | (simp [errW_none, errW_some] <;> rfl)) | (simp [*, errW_none, errW_some] <;> rfl), by exact zR <| Kd.R_mono HO_7.out (fun _ hk => trivial), by repeat (first | (with_reducible first | exact HB.out | apply ba | apply bd | apply be | refine below_set ?_ GE122.out) | exact HB.out)⟩
               ·rw [if_neg c52] at H
                exact absurd H (by simp)
              ·rw [if_neg c51] at H
               exact absurd H (by simp)
            ·rw [if_neg c37] at H
             exact absurd H (by simp)
           ·rw [if_neg c36] at H
            exact absurd H (by simp)
          ·rw [if_neg c34] at H
           have c34b0 : decide (0 < x8_2) = false := decide_eq_false c34
           clear c34
           by_cases c60 : 0 ≤ x8_2
           ·rw [if_pos c60] at H
            have c60b0 : decide (0 ≤ x8_2) = true := decide_eq_true c60
            clear c60
            by_cases c61 : x8_2 < (x7_2.length : Int)
            ·rw [if_pos c61] at H
             have c61b0 : decide (x8_2 < (x7_2.length : Int)) = true := decide_eq_true c61
             clear c61
             obtain ⟨y142, hy142⟩ : ∃ y_ : List (S28), y_ = (x7_2.set (x8_2 : Int).toNat (⟨(⟨x123000_2, x123001_2, x123002_2⟩ : S24), (⟨x123003_2, x123004_2⟩ : S26), x123005_2, x123006_2⟩ : S28)) := ⟨_, rfl⟩
             replace H : (some (y142, x8_2, 0)) = some (r1, r2, r3) := by first | (rw [hy142]; with_reducible exact H) | (have H2_ := (Option.bind_some _ _).symm.trans H; rw [hy142]; with_reducible exact H2_) | (have H2_ := (Option.bind_some _ _).symm.trans H; with_reducible exact H2_) | with_reducible exact H | (rw [hy142]; exact H) | exact H
             have Ny142 := Aside0.mk hy142
             clear hy142
             simp only [Option.some.injEq, Prod.mk.injEq] at H
             obtain ⟨rfl, rfl, rfl⟩ := H
             try go_wp2
             have n0_ := am (Kd.R_drew HO_7.out)
             have n1_ := am (blk_drew BK122.out)
             have n2_ := am (below_drew1 HB.out)
             clear HO_7 BK122 HB
             have HO_7 := n0_
             have BK122 := n1_
             have HB := n2_
             clear n0_ n1_ n2_
             refine start_ (n := 12) (S := fun w' => True) (ds := []) #[false, false, false, false, false, false, false, false, false, false, false, false] (by kernel_rfl) rfl rfl trivial (fun hHeld => ?_); refine with_tabW line_Insert.tab11 line_Insert.bits11 (fun HT_ HW_ => ?_)
             generalize wr.drew = w63 at HO_7 BK122 HB hHeld ⊢
             refine pure_ (i := 0) (N := some 35) (v := ?_) (a' := ?_) #[true, false, false, false, false, false, false, false, false, false, false, false] rfl rfl (any_of HT_.out (by kernel_rfl)) (fun _ _ _ h => h) (Or.inl ⟨by rfl, ?_⟩) ?_ ?_
             rotate_left
             ·intro w'
              go_simp
              with_reducible rfl
             rotate_left
             ·simp only [Act.put, List.setIfInBounds_toArray, List.set_cons_zero, List.set_cons_succ, i64_w, i32_w]
              rfl
             refine pure_ (i := 1) (N := some 36) (v := ?_) (a' := ?_) #[true, true, false, false, false, false, false, false, false, false, false, false] rfl rfl (any_of HT_.out (by kernel_rfl)) (fun _ _ _ h => h) (Or.inl ⟨by rfl, ?_⟩) ?_ ?_
             rotate_left
             ·intro w'
              go_simp
              with_reducible rfl
             rotate_left
             ·simp only [Act.put, List.setIfInBounds_toArray, List.set_cons_zero, List.set_cons_succ, i64_w, i32_w]
              rfl
             refine pure_ (i := 2) (N := some 37) (v := ?_) (a' := ?_) #[true, true, true, false, false, false, false, false, false, false, false, false] rfl rfl (any_of HT_.out (by kernel_rfl)) (fun _ _ _ h => h) (Or.inl ⟨by rfl, ?_⟩) ?_ ?_
             rotate_left
             ·intro w'
              go_simp
              with_reducible rfl
             rotate_left
             ·simp only [Act.put, List.setIfInBounds_toArray, List.set_cons_zero, List.set_cons_succ, i64_w, i32_w]
              rfl
             refine pure_ (i := 3) (N := some 38) (v := undef) (a' := ?_) #[true, true, true, true, false, false, false, false, false, false, false, false] rfl rfl (any_of HT_.out (by kernel_rfl)) (fun _ _ _ h => h) (Or.inr ⟨by rfl, rfl⟩) ?_ ?_
             rotate_left
             ·simp only [Act.put, List.setIfInBounds_toArray, List.set_cons_zero, List.set_cons_succ, i64_w, i32_w]
              rfl
             refine pure_ (i := 4) (N := some 39) (v := undef) (a' := ?_) #[true, true, true, true, true, false, false, false, false, false, false, false] rfl rfl (any_of HT_.out (by kernel_rfl)) (fun _ _ _ h => h) (Or.inr ⟨by rfl, rfl⟩) ?_ ?_
             rotate_left
             ·simp only [Act.put, List.setIfInBounds_toArray, List.set_cons_zero, List.set_cons_succ, i64_w, i32_w]
              rfl
             refine pure_ (i := 5) (N := some 40) (v := undef) (a' := ?_) #[true, true, true, true, true, true, false, false, false, false, false, false] rfl rfl (any_of HT_.out (by kernel_rfl)) (fun _ _ _ h => h) (Or.inr ⟨by rfl, rfl⟩) ?_ ?_
             rotate_left
             ·simp only [Act.put, List.setIfInBounds_toArray, List.set_cons_zero, List.set_cons_succ, i64_w, i32_w]
              rfl
             refine pure_ (i := 6) (N := some 41) (v := undef) (a' := ?_) #[true, true, true, true, true, true, true, false, false, false, false, false] rfl rfl (any_of HT_.out (by kernel_rfl)) (fun _ _ _ h => h) (Or.inr ⟨by rfl, rfl⟩) ?_ ?_
             rotate_left
             ·simp only [Act.put, List.setIfInBounds_toArray, List.set_cons_zero, List.set_cons_succ, i64_w, i32_w]
              rfl
             refine pure_ (i := 7) (N := some 42) (v := undef) (a' := ?_) #[true, true, true, true, true, true, true, true, false, false, false, false] rfl rfl (any_of HT_.out (by kernel_rfl)) (fun _ _ _ h => h) (Or.inr ⟨by rfl, rfl⟩) ?_ ?_
             rotate_left
             ·simp only [Act.put, List.setIfInBounds_toArray, List.set_cons_zero, List.set_cons_succ, i64_w, i32_w]
              rfl
             refine pure_ (i := 8) (N := some 43) (v := undef) (a' := ?_) #[true, true, true, true, true, true, true, true, true, false, false, false] rfl rfl (any_of HT_.out (by kernel_rfl)) (fun _ _ _ h => h) (Or.inr ⟨by rfl, rfl⟩) ?_ ?_
             rotate_left
             ·simp only [Act.put, List.setIfInBounds_toArray, List.set_cons_zero, List.set_cons_succ, i64_w, i32_w]
              rfl
             refine pure_ (i := 9) (N := some 44) (v := undef) (a' := ?_) #[true, true, true, true, true, true, true, true, true, true, false, false] rfl rfl (any_of HT_.out (by kernel_rfl)) (fun _ _ _ h => h) (Or.inr ⟨by rfl, rfl⟩) ?_ ?_
             rotate_left
             ·simp only [Act.put, List.setIfInBounds_toArray, List.set_cons_zero, List.set_cons_succ, i64_w, i32_w]
              rfl
             refine pure_ (i := 10) (N := some 45) (v := undef) (a' := ?_) #[true, true, true, true, true, true, true, true, true, true, true, false] rfl rfl (any_of HT_.out (by kernel_rfl)) (fun _ _ _ h => h) (Or.inr ⟨by rfl, rfl⟩) ?_ ?_
             rotate_left
             ·simp only [Act.put, List.setIfInBounds_toArray, List.set_cons_zero, List.set_cons_succ, i64_w, i32_w]
              rfl
             refine pure_ (i := 11) (N := some 46) (v := ?_) (a' := ?_) #[true, true, true, true, true, true, true, true, true, true, true, true] rfl rfl (any_of HT_.out (by kernel_rfl)) (fun _ _ _ h => h) (Or.inl ⟨by rfl, ?_⟩) ?_ ?_
             rotate_left
             ·intro w'
              go_simp
              with_reducible rfl
             rotate_left
             ·simp only [Act.put, List.setIfInBounds_toArray, List.set_cons_zero, List.set_cons_succ, i64_w, i32_w]
              rfl
             refine done_ (done_of HT_.out (by kernel_rfl)) ?_
             have hcz64_0 : w63.cell? ⟨gb122, 0, none⟩ = some (.int .i64 x123000_2) := (blk_cell BK122.out 0).trans rfl
             have hcz64_1 : w63.cell? ⟨gb122, 1, none⟩ = some (.int .i64 x123001_2) := (blk_cell BK122.out 1).trans rfl
             have hcz64_2 : w63.cell? ⟨gb122, 2, none⟩ = some (.int .i64 x123002_2) := (blk_cell BK122.out 2).trans rfl
             have hcz64_3 : w63.cell? ⟨gb122, 3, none⟩ = some (.int .i64 x123003_2) := (blk_cell BK122.out 3).trans rfl
             have hcz64_4 : w63.cell? ⟨gb122, 4, none⟩ = some (.int .i64 x123004_2) := (blk_cell BK122.out 4).trans rfl
             have hcz64_5 : w63.cell? ⟨gb122, 5, none⟩ = some (.int .i64 x123005_2) := (blk_cell BK122.out 5).trans rfl
             have hcz64_6 : w63.cell? ⟨gb122, 6, none⟩ = some (.int .i64 x123006_2) := (blk_cell BK122.out 6).trans rfl
             have hfz64_0 := blk_frozen BK122.out 0
             have hfz64_1 := blk_frozen BK122.out 1
             have hfz64_2 := blk_frozen BK122.out 2
             have hfz64_3 := blk_frozen BK122.out 3
             have hfz64_4 := blk_frozen BK122.out 4
             have hfz64_5 := blk_frozen BK122.out 5
             have hfz64_6 := blk_frozen BK122.out 6
             have p62 : 0 ≤ (x8_2 : Int) := of_decide_eq_true (by first | (with_reducible assumption) | assumption)
             have q62 : (x8_2 : Int) < ((x7_2.length : Int) : Int) := of_decide_eq_true (by first | (with_reducible assumption) | assumption)
             obtain ⟨go62, co62, eo62, gb62, gl62, cl62, HG62⟩ := Kd.R_form HO_7.out (by omega)
             (first | cases eo62 | (injection eo62 with ea_ en_ ec_; (first | subst ea_ | (injection ea_ with ea_; subst ea_)); subst ec_; clear en_))
             have GB62 := Aside0.mk gb62
             have GG62 := Aside0.mk HG62
             clear gb62 gl62 HG62
             obtain ⟨ce62, hcl62, hM62, hcc62, hfr62⟩ := Kd.R_elem HO_7.out z28 (x8_2 : Int) p62 q62
             obtain rfl := k28_openM hM62
             have hx62_0 : w63.cell? ⟨go62, (x8_2 : Int).toNat * 7, none⟩ = some (.int .i64 ((rd_T28 x7_2 x8_2).f0.f0)) := hcc62 0 _ rfl
             have hx62_1 : w63.cell? ⟨go62, (x8_2 : Int).toNat * 7 + 1, none⟩ = some (.int .i64 ((rd_T28 x7_2 x8_2).f0.f1)) := hcc62 1 _ rfl
             have hx62_2 : w63.cell? ⟨go62, (x8_2 : Int).toNat * 7 + 2, none⟩ = some (.int .i64 ((rd_T28 x7_2 x8_2).f0.f2)) := hcc62 2 _ rfl
             have hx62_3 : w63.cell? ⟨go62, (x8_2 : Int).toNat * 7 + 3, none⟩ = some (.int .i64 ((rd_T28 x7_2 x8_2).f1.f0)) := hcc62 3 _ rfl
             have hx62_4 : w63.cell? ⟨go62, (x8_2 : Int).toNat * 7 + 4, none⟩ = some (.int .i64 ((rd_T28 x7_2 x8_2).f1.f1)) := hcc62 4 _ rfl
             have hx62_5 : w63.cell? ⟨go62, (x8_2 : Int).toNat * 7 + 5, none⟩ = some (.int .i64 ((rd_T28 x7_2 x8_2).f2)) := hcc62 5 _ rfl
             have hx62_6 : w63.cell? ⟨go62, (x8_2 : Int).toNat * 7 + 6, none⟩ = some (.int .i64 ((rd_T28 x7_2 x8_2).f3)) := hcc62 6 _ rfl
             have hf62_0 : w63.frozen? ⟨go62, (x8_2 : Int).toNat * 7, none⟩ = false := hfr62 0
             have hf62_1 : w63.frozen? ⟨go62, (x8_2 : Int).toNat * 7 + 1, none⟩ = false := hfr62 1
             have hf62_2 : w63.frozen? ⟨go62, (x8_2 : Int).toNat * 7 + 2, none⟩ = false := hfr62 2
             have hf62_3 : w63.frozen? ⟨go62, (x8_2 : Int).toNat * 7 + 3, none⟩ = false := hfr62 3
             have hf62_4 : w63.frozen? ⟨go62, (x8_2 : Int).toNat * 7 + 4, none⟩ = false := hfr62 4
             have hf62_5 : w63.frozen? ⟨go62, (x8_2 : Int).toNat * 7 + 5, none⟩ = false := hfr62 5
             have hf62_6 : w63.frozen? ⟨go62, (x8_2 : Int).toNat * 7 + 6, none⟩ = false := hfr62 6
             clear hcl62 hcc62 hfr62; (try clear hM62)
             replace p62 := eq_true p62
             replace q62 := eq_true q62
             have HX65 := am (show Kd.R k28 28 w63 w.heap.size (fun k_ => k_ ≠ gb122) (.slice (some ⟨go62, 0, none⟩) x7_2.length co62) x7_2 from (zR HO_7.out))
             obtain ⟨ce65, hcl65, hM65, hcc65, hfr65⟩ := Kd.R_elem HX65.out z28 (x8_2 : Int) (of_decide_eq_true (by first | (with_reducible assumption) | assumption)) (by have h_ : (x8_2 : Int) < ((x7_2.length : Int) : Int) := of_decide_eq_true (by first | (with_reducible assumption) | assumption); first | exact h_ | (have e_ := (Kd.R_reads' HO_7.out).1; omega) | simpa using h_)
             obtain rfl := k28_openM hM65
             have HP65 := Kd.R_seg HX65.out (x8_2 : Int) (of_decide_eq_true (by first | (with_reducible assumption) | assumption)) (by have h_ : (x8_2 : Int) < ((x7_2.length : Int) : Int) := of_decide_eq_true (by first | (with_reducible assumption) | assumption); first | exact h_ | (have e_ := (Kd.R_reads' HO_7.out).1; omega) | simpa using h_) (seg := [.int .i64 x123000_2, .int .i64 x123001_2, .int .i64 x123002_2, .int .i64 x123003_2, .int .i64 x123004_2, .int .i64 x123005_2, .int .i64 x123006_2]) (j := 0) hcl65 hcc65 (show 7 ≤ 7 from by decide) (x' := (⟨(⟨x123000_2, x123001_2, x123002_2⟩ : S24), (⟨x123003_2, x123004_2⟩ : S26), x123005_2, x123006_2⟩ : S28)) (k28_mkM _ _ _ (⟨(⟨x123000_2, x123001_2, x123002_2⟩ : S24), (⟨x123003_2, x123004_2⟩ : S26), x123005_2, x123006_2⟩ : S28) ) (fun _ hk => hk)
             have hx65_0 := hcc65 0 _ rfl
             (try simp only [show (k28).sz = 7 from rfl, Nat.mul_one, Nat.add_zero] at hx65_0)
             have hf65_0 := hfr65 0
             (try simp only [show (k28).sz = 7 from rfl, Nat.mul_one, Nat.add_zero] at hf65_0)
             have hx65_1 := hcc65 1 _ rfl
             (try simp only [show (k28).sz = 7 from rfl, Nat.mul_one, Nat.add_zero] at hx65_1)
             have hf65_1 := hfr65 1
             (try simp only [show (k28).sz = 7 from rfl, Nat.mul_one, Nat.add_zero] at hf65_1)
             have hx65_2 := hcc65 2 _ rfl
             (try simp only [show (k28).sz = 7 from rfl, Nat.mul_one, Nat.add_zero] at hx65_2)
             have hf65_2 := hfr65 2
             (try simp only [show (k28).sz = 7 from rfl, Nat.mul_one, Nat.add_zero] at hf65_2)
             have hx65_3 := hcc65 3 _ rfl
             (try simp only [show (k28).sz = 7 from rfl, Nat.mul_one, Nat.add_zero] at hx65_3)
             have hf65_3 := hfr65 3
             (try simp only [show (k28).sz = 7 from rfl, Nat.mul_one, Nat.add_zero] at hf65_3)
             have hx65_4 := hcc65 4 _ rfl
             (try simp only [show (k28).sz = 7 from rfl, Nat.mul_one, Nat.add_zero] at hx65_4)
             have hf65_4 := hfr65 4
             (try simp only [show (k28).sz = 7 from rfl, Nat.mul_one, Nat.add_zero] at hf65_4)
             have hx65_5 := hcc65 5 _ rfl
             (try simp only [show (k28).sz = 7 from rfl, Nat.mul_one, Nat.add_zero] at hx65_5)
             have hf65_5 := hfr65 5
             (try simp only [show (k28).sz = 7 from rfl, Nat.mul_one, Nat.add_zero] at hf65_5)
             have hx65_6 := hcc65 6 _ rfl
             (try simp only [show (k28).sz = 7 from rfl, Nat.mul_one, Nat.add_zero] at hx65_6)
             have hf65_6 := hfr65 6
             (try simp only [show (k28).sz = 7 from rfl, Nat.mul_one, Nat.add_zero] at hf65_6)
             clear hcl65 hcc65 hfr65; (try clear hM65)
             try go_wp2_with (first | ((with_reducible refine gate_store (t := 28) (p := 68) rfl ?_); refine store_event (t := 28) (p := 68) (v := ?vo_w66) (w1 := (((((((w63.setCell ⟨go62, (x8_2 : Int).toNat * 7, none⟩ (.int .i64 x123000_2)).setCell ⟨go62, (x8_2 : Int).toNat * 7 + 1, none⟩ (.int .i64 x123001_2)).setCell ⟨go62, (x8_2 : Int).toNat * 7 + 2, none⟩ (.int .i64 x123002_2)).setCell ⟨go62, (x8_2 : Int).toNat * 7 + 3, none⟩ (.int .i64 x123003_2)).setCell ⟨go62, (x8_2 : Int).toNat * 7 + 4, none⟩ (.int .i64 x123004_2)).setCell ⟨go62, (x8_2 : Int).toNat * 7 + 5, none⟩ (.int .i64 x123005_2)).setCell ⟨go62, (x8_2 : Int).toNat * 7 + 6, none⟩ (.int .i64 x123006_2))) ?hg ?ho ?hn ?hr ?_; (case ho => rfl); (case hg => rfl); (case hn => rfl); (case hr => first | (go_simp; done) | (go_simp; rfl)); intro w66 hw; have hg : w63.grownBy w66 (some go62) := (by rw [hw]; exact HP65.2); have hp_ : Kd.R k28 28 w66 w.heap.size (fun k_ => k_ ≠ gb122) (.slice (some ⟨go62, 0, none⟩) x7_2.length co62) y142 := (by rw [hw, Ny142.out]; exact HP65.1); clear HP65; have n0_ := am (hp_); have n1_ := am (blk_grown (g := gb122) (o := .cells #[.int .i64 x123000_2, .int .i64 x123001_2, .int .i64 x123002_2, .int .i64 x123003_2, .int .i64 x123004_2, .int .i64 x123005_2, .int .i64 x123006_2] 28 (0, 0)) (zB BK122.out) hg (Kd.R_away HO_7.out (fun _ hk => hk))); have n2_ := am ((by rw [hw]; exact below_set (below_set (below_set (below_set (below_set (below_set (below_set (HB.out) GB62.out) GB62.out) GB62.out) GB62.out) GB62.out) GB62.out) GB62.out : Below w.heap.size w w66)); clear HO_7 BK122 HB; have HO_7 := n0_; have BK122 := n1_; have HB := n2_; clear n0_ n1_ n2_; clear hg hw hp_))
             go_ret3
             exact ⟨_, by first | rfl | (simp [errW_none, errW_some] <;> rfl) | (simp [*, errW_none, errW_some] <;> rfl), by exact zR <| Kd.R_mono HO_7.out (fun _ hk => trivial), by repeat (first | (with_reducible first | exact HB.out | apply ba | apply bd | apply be | refine below_set ?_ GE122.out) | exact HB.out)⟩
            ·rw [if_neg c61] at H
             exact absurd H (by simp)
           ·rw [if_neg c60] at H
            exact absurd H (by simp)
       ·rw [if_neg c24] at H
        exact absurd H (by simp)
 ·replace c4 := Bool.eq_false_iff.mpr c4
  subst c4
  have H1 : (some (([] : List (S28)), 0, 2)) = some (r1, r2, r3) := by rw [if_neg (show ¬ (false = true) by decide)] at H; exact H
  clear H
  have H := H1
  clear H1
  simp only [Option.some.injEq, Prod.mk.injEq] at H
  obtain ⟨rfl, rfl, rfl⟩ := H
  go_enter Try.func15, Try.ntmps15
  go_wp2_with (first | ((with_reducible refine gate_dst (N := 3) rfl ?_); refine box_event ?hg (N := 3) ?hd (cs := #[.int .i64 a1_0, .int .i64 a1_1, .int .i64 a1_2, .int .i64 a1_3, .int .i64 a1_4, .int .i64 a1_5, .int .i64 a1_6]) (t := 28) ?hr ?_; (case hd => rfl); (case hg => rfl); (case hr => first | (go_simp; done) | (go_simp; rfl)); intro gb122 hg w67 hbox hb; have n0_ := am (below_step (zL HB.out) hb); have n1_ := am (hbox); have n2_ := am (zS hg HB.out); have n3_ := am (zS hg HB.out); clear HB; have HB := n0_; have BK122 := n1_; have GW122 := n2_; have GE122 := n3_; clear n0_ n1_ n2_ n3_; clear hb hbox hg) | ((with_reducible refine gate_callee (f := 13) rfl ?_); refine goesL_ (some 10) rfl rfl Try.func13 (by kernel_rfl) rfl #[.slice A0 l0.length c0] rfl (by (try simp only [List.map_toArray, List.map_cons, List.map_nil]); first | done | rfl | (simp only [List.length_drop, List.length_take]; rfl)) ?_; (with_reducible refine (line_Valid.calls k _ _ l0 false _ ?side1 ?side2 A3.out).mono ?_); (case side1 => exact zC (Kd.C_below HR0.out HB.out)); (case side2 => exact HC0.out); rintro e w68 ⟨rfl, hb⟩; refine ⟨_, rfl, ?_⟩; have n0_ := am (blk_below (zB BK122.out) hb); have n1_ := am (below_step (zL HB.out) hb); clear BK122 HB; have BK122 := n0_; have HB := n1_; clear n0_ n1_; (try clear hb); (try clear hb2); (try clear hk); (try clear hi)))
  go_ret3
  exact ⟨_, by first | rfl | (simp [errW_none, errW_some] <;> rfl) | (simp [*, errW_none, errW_some] <;> rfl), by first | exact Kd.R_nil _ _ _ _ _ | exact Kd.N_nil _ _ _ _ _ | exact Kd.V_nil _ _ _ _ _ | exact Kd.Q_nil _ _ _ _ _ | exact Kd.S_nil _ _ _ _ _, by repeat (first | (with_reducible first | exact HB.out | apply ba | apply bd | apply be | refine below_set ?_ GE122.out) | exact HB.out)⟩

end Go.Proofs.Ytgomhoolipfkmaa.Y

-- Laid by a program of this session's (xprint.py, which runs the kit's print.py with patches of its own). Lean checks it.
import Derived.Test.YtgomhoolipfkmaaY0
import Derived.Test.YtgomhoolipfkmaaY5
import Derived.Test.YtgomhoolipfkmaaY7
import Derived.Test.YtgomhoolipfkmaaY15
import Derived.Test.YtgomhoolipfkmaaY16
namespace Go.Proofs.Ytgomhoolipfkmaa.Y
open Go.RowKit Go.Proofs.YtgomhoolipfkmaaW.PrintWords Go.Proofs.YtgomhoolipfkmaaW.PrintLast Go.Proofs.YtgomhoolipfkmaaW.PrintMore
attribute [local go_sem] max2_int min2_int max_two min_two max_three min_three max_four min_four   -- for this text's walks alone
set_option linter.unusedVariables false
set_option linter.unusedSimpArgs false

/-! ### clusterlockslaw11_LineInserts: function 4 -/
def clusterlockslaw11_LineInserts.f (k : Nat) (l0 : List (S28)) (a1_0 : Int) (a1_1 : Int) (a1_2 : Int) (a1_3 : Int) (a1_4 : Int) (a1_5 : Int) (a1_6 : Int) : Option (Bool) := if (l0.length : Int) > 100 then ((clusterlockslaw11_awake.f k).bind fun t256 => (some t256)) else ((line_Insert.f k l0 a1_0 a1_1 a1_2 a1_3 a1_4 a1_5 a1_6).bind fun bt257 => ((clusterlocksref11_Insert.f k l0 a1_0 a1_1 a1_2 a1_3 a1_4 a1_5 a1_6).bind fun bt262 => ((clusterlockslaw11_awake.f k).bind fun t267 => (if t267 = true then (if bt257.2.2 = bt262.2.2 then (if bt257.2.1 = bt262.2.1 then ((clusterlocksref11_SameWaits.f k bt257.1 bt262.1).bind fun t268 => (some t268)) else (none)) else (none)) else (none)))))
theorem clusterlockslaw11_LineInserts.mono : ∀ a0 a1 a2 a3 a4 a5 a6 a7 k, LeO (clusterlockslaw11_LineInserts.f k a0 a1 a2 a3 a4 a5 a6 a7) (clusterlockslaw11_LineInserts.f (k + 1) a0 a1 a2 a3 a4 a5 a6 a7) := by
 intro a0 a1 a2 a3 a4 a5 a6 a7 k
 unfold clusterlockslaw11_LineInserts.f
 repeat' first
   | (with_reducible exact clusterlockslaw11_awake.mono _)
   | (with_reducible exact clusterlocksref11_Insert.mono _ _ _ _ _ _ _ _ _)
   | (with_reducible exact clusterlocksref11_SameWaits.mono _ _ _)
   | (with_reducible exact line_Insert.mono _ _ _ _ _ _ _ _ _)
   | (with_reducible exact LeO.refl _)
   | (with_reducible exact LeO.none _)
   | (with_reducible refine LeO.ite ?_ ?_)
   | (with_reducible refine LeO.bind ?_ (fun _ => ?_))
   | exact clusterlockslaw11_awake.mono _
   | exact clusterlocksref11_Insert.mono _ _ _ _ _ _ _ _ _
   | exact clusterlocksref11_SameWaits.mono _ _ _
   | exact line_Insert.mono _ _ _ _ _ _ _ _ _
   | exact LeO.none _
   | refine LeO.ite ?_ ?_
   | refine LeO.bind ?_ (fun _ => ?_)
set_option maxHeartbeats 8000000 in
set_option maxRecDepth 100000 in
theorem clusterlockslaw11_LineInserts.calls (k : Nat) (A0 : Option Addr) (c0 : Nat) (l0 : List (S28)) (a1_0 : Int) (a1_1 : Int) (a1_2 : Int) (a1_3 : Int) (a1_4 : Int) (a1_5 : Int) (a1_6 : Int) (r : Bool) (w : World) (hr0 : Kd.C k28 w A0 l0.length l0) (hc0 : l0.length ≤ c0) (h : clusterlockslaw11_LineInserts.f k l0 a1_0 a1_1 a1_2 a1_3 a1_4 a1_5 a1_6 = some r) :
  Calls Try.prog 4 #[.slice A0 l0.length c0, .agg #[.int .i64 a1_0, .int .i64 a1_1, .int .i64 a1_2, .int .i64 a1_3, .int .i64 a1_4, .int .i64 a1_5, .int .i64 a1_6]] w fun e w' => e = .returned (.bool r) ∧ Below w.heap.size w w' := by
 have hu28 := Try.underlying28
 have HR0 := Aside0.mk hr0
 have HC0 := Aside0.mk hc0
 clear hr0 hc0
 have HB := Aside0.mk (Below.refl w.heap.size w)
 have H : (if (l0.length : Int) > 100 then ((clusterlockslaw11_awake.f k).bind fun t256 => (some t256)) else ((line_Insert.f k l0 a1_0 a1_1 a1_2 a1_3 a1_4 a1_5 a1_6).bind fun bt257 => ((clusterlocksref11_Insert.f k l0 a1_0 a1_1 a1_2 a1_3 a1_4 a1_5 a1_6).bind fun bt262 => ((clusterlockslaw11_awake.f k).bind fun t267 => (if t267 = true then (if bt257.2.2 = bt262.2.2 then (if bt257.2.1 = bt262.2.1 then ((clusterlocksref11_SameWaits.f k bt257.1 bt262.1).bind fun t268 => (some t268)) else (none)) else (none)) else (none)))))) = some r := h
 clear h
 by_cases c3 : (l0.length : Int) > 100
 ·rw [if_pos c3] at H
  have c3b0 : decide (100 < (l0.length : Int)) = true := decide_eq_true c3
  have c3b1 : decide (100 < l0.length) = true := decide_eq_true (by omega)
  clear c3
  replace H := Option.bind_eq_some_iff.mp H
  obtain ⟨t256, A40, H⟩ := H
  replace H : (some t256) = some r := H
  have A4 := Aside0.mk A40
  clear A40
  obtain rfl := Option.some.inj H
  go_enter Try.func4, Try.ntmps4
  go_wp2_with (first | ((with_reducible refine gate_dst (N := 3) rfl ?_); refine box_event ?hg (N := 3) ?hd (cs := #[.int .i64 a1_0, .int .i64 a1_1, .int .i64 a1_2, .int .i64 a1_3, .int .i64 a1_4, .int .i64 a1_5, .int .i64 a1_6]) (t := 28) ?hr ?_; (case hd => rfl); (case hg => rfl); (case hr => first | (go_simp; done) | (go_simp; rfl)); intro gb255 hg w5 hbox hb; have n0_ := Aside0.mk (below_step (by repeat (first | (with_reducible first | exact HB.out | apply ba | apply bd | apply be) | exact HB.out)) hb); have n1_ := Aside0.mk (hbox); have n2_ := Aside0.mk ((by rw [hg]; exact (below_size (by repeat (first | (with_reducible first | exact HB.out | apply ba | apply bd | apply be) | exact HB.out))) : w.heap.size ≤ gb255)); have n3_ := Aside0.mk ((by rw [hg]; exact (below_size (by repeat (first | (with_reducible first | exact HB.out | apply ba | apply bd | apply be) | exact HB.out))) : w.heap.size ≤ gb255)); clear HB; have HB := n0_; have BK255 := n1_; have GW255 := n2_; have GE255 := n3_; clear n0_ n1_ n2_ n3_; clear hb hbox hg) | ((with_reducible refine gate_callee (f := 10) rfl ?_); refine goesL_ (some 14) rfl rfl Try.func10 (by kernel_rfl) rfl #[] rfl (by (try simp only [List.map_toArray, List.map_cons, List.map_nil]); first | done | rfl | (simp only [List.length_drop, List.length_take]; rfl)) ?_; (with_reducible refine (clusterlockslaw11_awake.calls k  t256 _ A4.out).mono ?_); rintro e w6 ⟨rfl, hb⟩; refine ⟨_, rfl, ?_⟩; have n0_ := Aside0.mk (blk_below (g := gb255) (o := .cells #[.int .i64 a1_0, .int .i64 a1_1, .int .i64 a1_2, .int .i64 a1_3, .int .i64 a1_4, .int .i64 a1_5, .int .i64 a1_6] 28 (0, 0)) (by (with_reducible repeat (first | refine blk_drewN ?_ _ | refine blk_drew ?_ | refine blk_alloc ?_ _)); exact BK255.out) hb); have n1_ := Aside0.mk (below_step (by repeat (first | (with_reducible first | exact HB.out | apply ba | apply bd | apply be | refine below_set ?_ GE255.out) | exact HB.out)) hb); clear BK255; clear HB; have BK255 := n0_; have HB := n1_; clear n0_ n1_; (try clear hb); (try clear hb2); (try clear hk); (try clear hi)))
  go_ret
  exact ⟨by first | rfl | (simp [errW_none, errW_some] <;> rfl) | (simp [*, errW_none, errW_some] <;> rfl), by repeat (first | (with_reducible first | exact HB.out | apply ba | apply bd | apply be | refine below_set ?_ GE255.out) | exact HB.out)⟩
 ·rw [if_neg c3] at H
  have c3b0 : decide (100 < (l0.length : Int)) = false := decide_eq_false c3
  have c3b1 : decide (100 < l0.length) = false := decide_eq_false (by omega)
  clear c3
  replace H := Option.bind_eq_some_iff.mp H
  obtain ⟨⟨t257, t260, t261⟩, A70, H⟩ := H
  replace H : ((clusterlocksref11_Insert.f k l0 a1_0 a1_1 a1_2 a1_3 a1_4 a1_5 a1_6).bind fun bt262 => ((clusterlockslaw11_awake.f k).bind fun t267 => (if t267 = true then (if t261 = bt262.2.2 then (if t260 = bt262.2.1 then ((clusterlocksref11_SameWaits.f k t257 bt262.1).bind fun t268 => (some t268)) else (none)) else (none)) else (none)))) = some r := H
  have A7 := Aside0.mk A70
  clear A70
  replace H := Option.bind_eq_some_iff.mp H
  obtain ⟨⟨t262, t265, t266⟩, A80, H⟩ := H
  replace H : ((clusterlockslaw11_awake.f k).bind fun t267 => (if t267 = true then (if t261 = t266 then (if t260 = t265 then ((clusterlocksref11_SameWaits.f k t257 t262).bind fun t268 => (some t268)) else (none)) else (none)) else (none))) = some r := H
  have A8 := Aside0.mk A80
  clear A80
  replace H := Option.bind_eq_some_iff.mp H
  obtain ⟨t267, A90, H⟩ := H
  replace H : (if t267 = true then (if t261 = t266 then (if t260 = t265 then ((clusterlocksref11_SameWaits.f k t257 t262).bind fun t268 => (some t268)) else (none)) else (none)) else (none)) = some r := H
  have A9 := Aside0.mk A90
  clear A90
  by_cases c10 : t267 = true
  ·subst c10
   have H1 : (if t261 = t266 then (if t260 = t265 then ((clusterlocksref11_SameWaits.f k t257 t262).bind fun t268 => (some t268)) else (none)) else (none)) = some r := by rw [if_pos rfl] at H; exact H
   clear H
   have H := H1
   clear H1
   by_cases c11 : t261 = t266
   ·rw [if_pos c11] at H
    have c11b0 : (t261 == t266) = true := beq_iff_eq.mpr c11
    have c11b1 : (t261 != t266) = false := bne_eq_false_iff_eq.mpr c11
    clear c11
    by_cases c12 : t260 = t265
    ·rw [if_pos c12] at H
     have c12b0 : (t260 == t265) = true := beq_iff_eq.mpr c12
     have c12b1 : (t260 != t265) = false := bne_eq_false_iff_eq.mpr c12
     clear c12
     replace H := Option.bind_eq_some_iff.mp H
     obtain ⟨t268, A130, H⟩ := H
     replace H : (some t268) = some r := H
     have A13 := Aside0.mk A130
     clear A130
     obtain rfl := Option.some.inj H
     go_enter Try.func4, Try.ntmps4
     go_wp2_with (first | ((with_reducible refine gate_dst (N := 3) rfl ?_); refine box_event ?hg (N := 3) ?hd (cs := #[.int .i64 a1_0, .int .i64 a1_1, .int .i64 a1_2, .int .i64 a1_3, .int .i64 a1_4, .int .i64 a1_5, .int .i64 a1_6]) (t := 28) ?hr ?_; (case hd => rfl); (case hg => rfl); (case hr => first | (go_simp; done) | (go_simp; rfl)); intro gb255 hg w14 hbox hb; have n0_ := Aside0.mk (below_step (by repeat (first | (with_reducible first | exact HB.out | apply ba | apply bd | apply be) | exact HB.out)) hb); have n1_ := Aside0.mk (hbox); have n2_ := Aside0.mk ((by rw [hg]; exact (below_size (by repeat (first | (with_reducible first | exact HB.out | apply ba | apply bd | apply be) | exact HB.out))) : w.heap.size ≤ gb255)); have n3_ := Aside0.mk ((by rw [hg]; exact (below_size (by repeat (first | (with_reducible first | exact HB.out | apply ba | apply bd | apply be) | exact HB.out))) : w.heap.size ≤ gb255)); clear HB; have HB := n0_; have BK255 := n1_; have GW255 := n2_; have GE255 := n3_; clear n0_ n1_ n2_ n3_; clear hb hbox hg; have hcz15_0 : w14.cell? ⟨gb255, 0, none⟩ = some (.int .i64 a1_0) := (blk_cell BK255.out 0).trans rfl; have hcz15_1 : w14.cell? ⟨gb255, 1, none⟩ = some (.int .i64 a1_1) := (blk_cell BK255.out 1).trans rfl; have hcz15_2 : w14.cell? ⟨gb255, 2, none⟩ = some (.int .i64 a1_2) := (blk_cell BK255.out 2).trans rfl; have hcz15_3 : w14.cell? ⟨gb255, 3, none⟩ = some (.int .i64 a1_3) := (blk_cell BK255.out 3).trans rfl; have hcz15_4 : w14.cell? ⟨gb255, 4, none⟩ = some (.int .i64 a1_4) := (blk_cell BK255.out 4).trans rfl; have hcz15_5 : w14.cell? ⟨gb255, 5, none⟩ = some (.int .i64 a1_5) := (blk_cell BK255.out 5).trans rfl; have hcz15_6 : w14.cell? ⟨gb255, 6, none⟩ = some (.int .i64 a1_6) := (blk_cell BK255.out 6).trans rfl; have hfz15_0 := blk_frozen BK255.out 0; have hfz15_1 := blk_frozen BK255.out 1; have hfz15_2 := blk_frozen BK255.out 2; have hfz15_3 := blk_frozen BK255.out 3; have hfz15_4 := blk_frozen BK255.out 4; have hfz15_5 := blk_frozen BK255.out 5; have hfz15_6 := blk_frozen BK255.out 6) | ((with_reducible refine gate_callee (f := 15) rfl ?_); refine goesL_ (some 18) rfl rfl Try.func15 (by kernel_rfl) rfl #[.slice A0 l0.length c0, .agg #[.int .i64 a1_0, .int .i64 a1_1, .int .i64 a1_2, .int .i64 a1_3, .int .i64 a1_4, .int .i64 a1_5, .int .i64 a1_6]] rfl (by (try simp only [List.map_toArray, List.map_cons, List.map_nil]); first | done | rfl | (simp only [List.length_drop, List.length_take]; rfl)) ?_; (with_reducible refine (line_Insert.calls k _ _ l0 a1_0 a1_1 a1_2 a1_3 a1_4 a1_5 a1_6 t257 t260 t261 _ ?side1 ?side2 A7.out).mono ?_); (case side1 => repeat (first | exact (Kd.C_below HR0.out HB.out) | (with_reducible refine Kd.C_alloc ?_ _) | (with_reducible refine Kd.C_drewN ?_ _) | (with_reducible refine Kd.C_drew ?_))); (case side2 => exact HC0.out); rintro e w16 ⟨v258, rfl, ho0, hb⟩; refine ⟨_, rfl, ?_⟩; have n0_ := Aside0.mk (Kd.R_lower (Kd.R_newB ho0 (g := gb255) (o := .cells #[.int .i64 a1_0, .int .i64 a1_1, .int .i64 a1_2, .int .i64 a1_3, .int .i64 a1_4, .int .i64 a1_5, .int .i64 a1_6] 28 (0, 0)) (by (with_reducible repeat (first | refine blk_drewN ?_ _ | refine blk_drew ?_ | refine blk_alloc ?_ _)); exact BK255.out)) (below_size (by repeat (first | (with_reducible first | exact HB.out | apply ba | apply bd | apply be | refine below_set ?_ GE255.out) | exact HB.out)))); have n1_ := Aside0.mk (blk_below (g := gb255) (o := .cells #[.int .i64 a1_0, .int .i64 a1_1, .int .i64 a1_2, .int .i64 a1_3, .int .i64 a1_4, .int .i64 a1_5, .int .i64 a1_6] 28 (0, 0)) (by (with_reducible repeat (first | refine blk_drewN ?_ _ | refine blk_drew ?_ | refine blk_alloc ?_ _)); exact BK255.out) hb); have n2_ := Aside0.mk (below_step (by repeat (first | (with_reducible first | exact HB.out | apply ba | apply bd | apply be | refine below_set ?_ GE255.out) | exact HB.out)) hb); clear BK255; clear HB; have HO259 := n0_; have BK255 := n1_; have HB := n2_; clear n0_ n1_ n2_; (try clear hb); (try clear hb2); (try clear hk); (try clear hi); (try clear ho0); have hcz17_0 : w16.cell? ⟨gb255, 0, none⟩ = some (.int .i64 a1_0) := (blk_cell BK255.out 0).trans rfl; have hcz17_1 : w16.cell? ⟨gb255, 1, none⟩ = some (.int .i64 a1_1) := (blk_cell BK255.out 1).trans rfl; have hcz17_2 : w16.cell? ⟨gb255, 2, none⟩ = some (.int .i64 a1_2) := (blk_cell BK255.out 2).trans rfl; have hcz17_3 : w16.cell? ⟨gb255, 3, none⟩ = some (.int .i64 a1_3) := (blk_cell BK255.out 3).trans rfl; have hcz17_4 : w16.cell? ⟨gb255, 4, none⟩ = some (.int .i64 a1_4) := (blk_cell BK255.out 4).trans rfl; have hcz17_5 : w16.cell? ⟨gb255, 5, none⟩ = some (.int .i64 a1_5) := (blk_cell BK255.out 5).trans rfl; have hcz17_6 : w16.cell? ⟨gb255, 6, none⟩ = some (.int .i64 a1_6) := (blk_cell BK255.out 6).trans rfl; have hfz17_0 := blk_frozen BK255.out 0; have hfz17_1 := blk_frozen BK255.out 1; have hfz17_2 := blk_frozen BK255.out 2; have hfz17_3 := blk_frozen BK255.out 3; have hfz17_4 := blk_frozen BK255.out 4; have hfz17_5 := blk_frozen BK255.out 5; have hfz17_6 := blk_frozen BK255.out 6) | ((with_reducible refine gate_callee (f := 16) rfl ?_); refine goesL_ (some 25) rfl rfl Try.func16 (by kernel_rfl) rfl #[.slice A0 l0.length c0, .agg #[.int .i64 a1_0, .int .i64 a1_1, .int .i64 a1_2, .int .i64 a1_3, .int .i64 a1_4, .int .i64 a1_5, .int .i64 a1_6]] rfl (by (try simp only [List.map_toArray, List.map_cons, List.map_nil]); first | done | rfl | (simp only [List.length_drop, List.length_take]; rfl)) ?_; (with_reducible refine (clusterlocksref11_Insert.calls k _ _ l0 a1_0 a1_1 a1_2 a1_3 a1_4 a1_5 a1_6 t262 t265 t266 _ ?side1 ?side2 A8.out).mono ?_); (case side1 => repeat (first | exact (Kd.C_below HR0.out HB.out) | (with_reducible refine Kd.C_alloc ?_ _) | (with_reducible refine Kd.C_drewN ?_ _) | (with_reducible refine Kd.C_drew ?_))); (case side2 => exact HC0.out); rintro e w18 ⟨v263, rfl, ho0, hb⟩; refine ⟨_, rfl, ?_⟩; have n0_ := Aside0.mk (Kd.R_elder' (by (with_reducible repeat (first | apply Kd.R_alloc | apply Kd.R_drewN | apply Kd.R_drew)); exact HO259.out) (Kd.R_base ho0) hb); have n1_ := Aside0.mk (Kd.R_lower (Kd.R_newB (Kd.R_new' ho0 (Kd.R_lt (by (with_reducible repeat (first | apply Kd.R_alloc | apply Kd.R_drewN | apply Kd.R_drew)); exact HO259.out))) (g := gb255) (o := .cells #[.int .i64 a1_0, .int .i64 a1_1, .int .i64 a1_2, .int .i64 a1_3, .int .i64 a1_4, .int .i64 a1_5, .int .i64 a1_6] 28 (0, 0)) (by (with_reducible repeat (first | refine blk_drewN ?_ _ | refine blk_drew ?_ | refine blk_alloc ?_ _)); exact BK255.out)) (below_size (by repeat (first | (with_reducible first | exact HB.out | apply ba | apply bd | apply be | refine below_set ?_ GE255.out) | exact HB.out)))); have n2_ := Aside0.mk (blk_below (g := gb255) (o := .cells #[.int .i64 a1_0, .int .i64 a1_1, .int .i64 a1_2, .int .i64 a1_3, .int .i64 a1_4, .int .i64 a1_5, .int .i64 a1_6] 28 (0, 0)) (by (with_reducible repeat (first | refine blk_drewN ?_ _ | refine blk_drew ?_ | refine blk_alloc ?_ _)); exact BK255.out) hb); have n3_ := Aside0.mk (below_step (by repeat (first | (with_reducible first | exact HB.out | apply ba | apply bd | apply be | refine below_set ?_ GE255.out) | exact HB.out)) hb); clear HO259; clear BK255; clear HB; have HO259 := n0_; have HO264 := n1_; have BK255 := n2_; have HB := n3_; clear n0_ n1_ n2_ n3_; (try clear hb); (try clear hb2); (try clear hk); (try clear hi); (try clear ho0)) | ((with_reducible refine gate_callee (f := 10) rfl ?_); refine goesL_ (some 29) rfl rfl Try.func10 (by kernel_rfl) rfl #[] rfl (by (try simp only [List.map_toArray, List.map_cons, List.map_nil]); first | done | rfl | (simp only [List.length_drop, List.length_take]; rfl)) ?_; (with_reducible refine (clusterlockslaw11_awake.calls k  true _ A9.out).mono ?_); rintro e w19 ⟨rfl, hb⟩; refine ⟨_, rfl, ?_⟩; have n0_ := Aside0.mk (Kd.R_below (by (with_reducible repeat (first | apply Kd.R_alloc | apply Kd.R_drewN | apply Kd.R_drew)); exact HO259.out) hb); have n1_ := Aside0.mk (Kd.R_below (by (with_reducible repeat (first | apply Kd.R_alloc | apply Kd.R_drewN | apply Kd.R_drew)); exact HO264.out) hb); have n2_ := Aside0.mk (blk_below (g := gb255) (o := .cells #[.int .i64 a1_0, .int .i64 a1_1, .int .i64 a1_2, .int .i64 a1_3, .int .i64 a1_4, .int .i64 a1_5, .int .i64 a1_6] 28 (0, 0)) (by (with_reducible repeat (first | refine blk_drewN ?_ _ | refine blk_drew ?_ | refine blk_alloc ?_ _)); exact BK255.out) hb); have n3_ := Aside0.mk (below_step (by repeat (first | (with_reducible first | exact HB.out | apply ba | apply bd | apply be | refine below_set ?_ GE255.out) | exact HB.out)) hb); clear HO259; clear HO264; clear BK255; clear HB; have HO259 := n0_; have HO264 := n1_; have BK255 := n2_; have HB := n3_; clear n0_ n1_ n2_ n3_; (try clear hb); (try clear hb2); (try clear hk); (try clear hi); obtain ⟨Ao20, co20, eo20⟩ := Kd.R_slice HO259.out; subst eo20; obtain ⟨Ao21, co21, eo21⟩ := Kd.R_slice HO264.out; subst eo21) | (go_at_call 17; (with_reducible refine (clusterlocksref11_SameWaits.calls k _ _ t257 _ _ t262 t268 _ ?side1 ?side2 ?side3 ?side4 A13.out).mono ?_); (case side1 => repeat (first | exact (Kd.R_reads' HO259.out).2.2 | (with_reducible refine Kd.C_alloc ?_ _) | (with_reducible refine Kd.C_drewN ?_ _) | (with_reducible refine Kd.C_drew ?_))); (case side2 => exact (Kd.R_reads' HO259.out).2.1); (case side3 => repeat (first | exact (Kd.R_reads' HO264.out).2.2 | (with_reducible refine Kd.C_alloc ?_ _) | (with_reducible refine Kd.C_drewN ?_ _) | (with_reducible refine Kd.C_drew ?_))); (case side4 => exact (Kd.R_reads' HO264.out).2.1); rintro e w' ⟨rfl, ⟨nd, rfl⟩⟩))
     go_ret
     exact ⟨by first | rfl | (simp [errW_none, errW_some] <;> rfl) | (simp [*, errW_none, errW_some] <;> rfl), by repeat (first | (with_reducible first | exact HB.out | apply ba | apply bd | apply be | refine below_set ?_ GE255.out) | exact HB.out)⟩
    ·rw [if_neg c12] at H
     exact absurd H (by simp)
   ·rw [if_neg c11] at H
    exact absurd H (by simp)
  ·replace c10 := Bool.eq_false_iff.mpr c10
   subst c10
   have H1 : (none) = some r := by rw [if_neg (show ¬ (false = true) by decide)] at H; exact H
   clear H
   have H := H1
   clear H1
   exact absurd H (by simp)

end Go.Proofs.Ytgomhoolipfkmaa.Y

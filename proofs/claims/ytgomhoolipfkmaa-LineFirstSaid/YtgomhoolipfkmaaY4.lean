-- Laid by a program of this session's (xprint.py, which runs the kit's print.py with patches of its own). Lean checks it.
import Derived.Test.YtgomhoolipfkmaaY0
import Derived.Test.YtgomhoolipfkmaaY3
namespace Go.Proofs.Ytgomhoolipfkmaa.Y
open Go.RowKit Go.Proofs.YtgomhoolipfkmaaW.PrintWords Go.Proofs.YtgomhoolipfkmaaW.PrintLast Go.Proofs.YtgomhoolipfkmaaW.PrintMore
attribute [local go_sem] max2_int min2_int max_two min_two max_three min_three max_four min_four   -- for this text's walks alone
set_option linter.unusedVariables false
set_option linter.unusedSimpArgs false

/-! ### line_Valid: function 13 -/
def line_Valid.l0 : Nat → List (S28) → List (S28) → Int → Int → Option (Bool)
 | 0, _, _, _, _ => none
 | k + 1, x0, x8, x9, x10 => if x10 < x9 then (if 0 ≤ x10 then (if x10 < (x8.length : Int) then ((line_ValidWait.f ((rd_T28 x8 x10).f0.f0) ((rd_T28 x8 x10).f0.f1) ((rd_T28 x8 x10).f0.f2) ((rd_T28 x8 x10).f1.f0) ((rd_T28 x8 x10).f1.f1) ((rd_T28 x8 x10).f2) ((rd_T28 x8 x10).f3)).bind fun t114 => (if t114 = true then (if x10 ≤ (x0.length : Int) then ((line_Find.f (x0.take (x10 : Int).toNat) ((rd_T28 x8 x10).f0.f0) ((rd_T28 x8 x10).f0.f1) ((rd_T28 x8 x10).f0.f2)).bind fun t119 => (if t119 ≥ 0 then (some false) else (line_Valid.l0 k x0 x8 x9 (wrap64 (x10 + 1))))) else (none)) else (some false))) else (none)) else (none)) else (some true)
def line_Valid.f (k : Nat) (l0 : List (S28)) : Option (Bool) := if (l0.length : Int) > 8 then (some false) else (line_Valid.l0 k l0 l0 (l0.length : Int) 0)
theorem line_Valid.mono_l : ∀ k, (∀ y0 y1 y2 y3, LeO (line_Valid.l0 k y0 y1 y2 y3) (line_Valid.l0 (k + 1) y0 y1 y2 y3))
 | 0 => fun _ _ _ _ r h => by simp [line_Valid.l0] at h
 | k + 1 => by
  have ih0 := line_Valid.mono_l k
  ·intro y0 y1 y2 y3
   unfold line_Valid.l0
   repeat' first
   | (with_reducible exact ih0 _ _ _ _)
   | (with_reducible exact LeO.refl _)
   | (with_reducible exact LeO.none _)
   | (with_reducible refine LeO.ite ?_ ?_)
   | (with_reducible refine LeO.bind ?_ (fun _ => ?_))
   | exact ih0 _ _ _ _
   | exact LeO.none _
   | refine LeO.ite ?_ ?_
   | refine LeO.bind ?_ (fun _ => ?_)
theorem line_Valid.mono : ∀ a0 k, LeO (line_Valid.f k a0) (line_Valid.f (k + 1) a0) := by
 intro a0 k
 have ih0 := line_Valid.mono_l k
 unfold line_Valid.f
 repeat' first
   | (with_reducible exact ih0 _ _ _ _)
   | (with_reducible exact LeO.refl _)
   | (with_reducible exact LeO.none _)
   | (with_reducible refine LeO.ite ?_ ?_)
   | (with_reducible refine LeO.bind ?_ (fun _ => ?_))
   | exact ih0 _ _ _ _
   | exact LeO.none _
   | refine LeO.ite ?_ ?_
   | refine LeO.bind ?_ (fun _ => ?_)
def line_Valid.T6 : Bool × List (List Nat × List Nat) := (true, [([], []), ([0], [0]), ([1], [1]), ([2, 1], [2]), ([3], [3]), ([3], [3]), ([4, 5, 3], [3, 4, 5]), ([3], [3]), ([7, 3], [3, 7]), ([6, 8, 3, 3], [3, 6, 8]), ([9, 3], [3, 9]), ([3, 10], [3, 10])])
def line_Valid.B6 : List Nat := [0, 1, 3, 7, 15, 15, 63, 15, 143, 511, 1023, 2047]
theorem line_Valid.tab6 : rtab .any (opsOf Try.f13 6) = line_Valid.T6 := by kernel_rfl
theorem line_Valid.bits6 : waitsOk line_Valid.T6.2 line_Valid.B6 = true := by kernel_rfl
set_option maxHeartbeats 8000000 in
set_option maxRecDepth 100000 in
theorem line_Valid.calls (k : Nat) (A0 : Option Addr) (c0 : Nat) (l0 : List (S28)) (r : Bool) (w : World) (hr0 : Kd.C k28 w A0 l0.length l0) (hc0 : l0.length ≤ c0) (h : line_Valid.f k l0 = some r) :
  Calls Try.prog 13 #[.slice A0 l0.length c0] w fun e w' => e = .returned (.bool r) ∧ Below w.heap.size w w' := by
 have hu28 := Try.underlying28
 have hu24 := Try.underlying24
 have HR0 := Aside0.mk hr0
 have HC0 := Aside0.mk hc0
 clear hr0 hc0
 have HB := am (Below.refl w.heap.size w)
 have H : (if (l0.length : Int) > 8 then (some false) else (line_Valid.l0 k l0 l0 (l0.length : Int) 0)) = some r := h
 clear h
 by_cases c2 : (l0.length : Int) > 8
 ·rw [if_pos c2] at H
  have c2b0 : decide (8 < (l0.length : Int)) = true := decide_eq_true c2
  have c2b1 : decide (8 < l0.length) = true := decide_eq_true (by omega)
  clear c2
  obtain rfl := Option.some.inj H
  go_enter Try.func13, Try.ntmps13
  go_wp2
  go_ret
  exact ⟨by first | rfl | (simp [errW_none, errW_some] <;> rfl) | (simp [*, errW_none, errW_some] <;> rfl), zL HB.out⟩
 ·rw [if_neg c2] at H
  have c2b0 : decide (8 < (l0.length : Int)) = false := decide_eq_false c2
  have c2b1 : decide (8 < l0.length) = false := decide_eq_false (by omega)
  clear c2
  have H' := Aside0.mk H
  clear H
  go_enter Try.func13, Try.ntmps13
  go_wp2
  go_loopg [10] k (fun kq v10 w' => ∃ (x10_1 : Int), v10 = .int .i64 x10_1 ∧ Aside0 (line_Valid.l0 kq l0 l0 (l0.length : Int) x10_1 = some r) ∧ Aside0 (kq ≤ k) ∧ Aside0 (Below w.heap.size w w'))
  case atStart => exact ⟨(0), (by first | rfl | (simp; done) | (simp [*]; done)), H', ⟨Nat.le_refl _⟩, ⟨zL HB.out⟩⟩
  case round =>
   clear H'
   try clear c1
   try clear c2
   try clear c2b0
   try clear c2b1
   try clear p2
   obtain ⟨x10_1, rfl, HA, HK1, HB⟩ := hrel
   cases gk with
   | zero => exact absurd HA.out (by simp [line_Valid.l0])
   | succ k1 =>
    have H := HA.out
    clear HA
    simp only [line_Valid.l0] at H
    by_cases c3 : x10_1 < (l0.length : Int)
    ·rw [if_pos c3] at H
     have c3b0 : decide (x10_1 < (l0.length : Int)) = true := decide_eq_true c3
     clear c3
     by_cases c4 : 0 ≤ x10_1
     ·rw [if_pos c4] at H
      have c4b0 : decide (0 ≤ x10_1) = true := decide_eq_true c4
      clear c4
      by_cases c5 : x10_1 < (l0.length : Int)
      ·rw [if_pos c5] at H
       have c5b0 : decide (x10_1 < (l0.length : Int)) = true := decide_eq_true c5
       clear c5
       replace H := Option.bind_eq_some_iff.mp H
       obtain ⟨t114, A60, H⟩ := H
       replace H : (if t114 = true then (if x10_1 ≤ (l0.length : Int) then ((line_Find.f (l0.take (x10_1 : Int).toNat) ((rd_T28 l0 x10_1).f0.f0) ((rd_T28 l0 x10_1).f0.f1) ((rd_T28 l0 x10_1).f0.f2)).bind fun t119 => (if t119 ≥ 0 then (some false) else (line_Valid.l0 k1 l0 l0 (l0.length : Int) (wrap64 (x10_1 + 1))))) else (none)) else (some false)) = some r := H
       have A6 := Aside0.mk A60
       clear A60
       by_cases c7 : t114 = true
       ·subst c7
        have H1 : (if x10_1 ≤ (l0.length : Int) then ((line_Find.f (l0.take (x10_1 : Int).toNat) ((rd_T28 l0 x10_1).f0.f0) ((rd_T28 l0 x10_1).f0.f1) ((rd_T28 l0 x10_1).f0.f2)).bind fun t119 => (if t119 ≥ 0 then (some false) else (line_Valid.l0 k1 l0 l0 (l0.length : Int) (wrap64 (x10_1 + 1))))) else (none)) = some r := by rw [if_pos rfl] at H; exact H
        clear H
        have H := H1
        clear H1
        have c8b0 := eq_true (of_decide_eq_true (by first | (with_reducible assumption) | assumption) : 0 ≤ x10_1)
        by_cases c9 : x10_1 ≤ (l0.length : Int)
        ·rw [if_pos c9] at H
         have c9b0 := eq_true c9
         have c9b1 : decide (x10_1 ≤ (l0.length : Int)) = true := decide_eq_true c9
         clear c9
         obtain ⟨y115, hy115⟩ : ∃ y_ : List (S28), y_ = (l0.take (x10_1 : Int).toNat) := ⟨_, rfl⟩
         replace H : ((line_Find.f y115 ((rd_T28 l0 x10_1).f0.f0) ((rd_T28 l0 x10_1).f0.f1) ((rd_T28 l0 x10_1).f0.f2)).bind fun t119 => (if t119 ≥ 0 then (some false) else (line_Valid.l0 k1 l0 l0 (l0.length : Int) (wrap64 (x10_1 + 1))))) = some r := by first | (rw [hy115]; with_reducible exact H) | (have H2_ := (Option.bind_some _ _).symm.trans H; rw [hy115]; with_reducible exact H2_) | (have H2_ := (Option.bind_some _ _).symm.trans H; with_reducible exact H2_) | with_reducible exact H | (rw [hy115]; exact H) | exact H
         have Ny115 := Aside0.mk hy115
         clear hy115
         replace H := Option.bind_eq_some_iff.mp H
         obtain ⟨t119, A100, H⟩ := H
         replace H : (if t119 ≥ 0 then (some false) else (line_Valid.l0 k1 l0 l0 (l0.length : Int) (wrap64 (x10_1 + 1)))) = some r := H
         have A10 := Aside0.mk A100
         clear A100
         by_cases c11 : t119 ≥ 0
         ·rw [if_pos c11] at H
          have c11b0 : decide (0 ≤ t119) = true := decide_eq_true c11
          clear c11
          obtain rfl := Option.some.inj H
          have p112 : 0 ≤ (x10_1 : Int) := of_decide_eq_true (by first | (with_reducible assumption) | assumption)
          have q112 : x10_1 < (l0.length : Int) := of_decide_eq_true (by first | (with_reducible assumption) | assumption)
          obtain ⟨ad112, e112, hx112_0, hx112_1, hx112_2, hx112_3, hx112_4, hx112_5, hx112_6⟩ := at_T28 HR0.out x10_1 p112 q112
          cases e112
          replace hx112_0 := (HB.out.cell (World.block_lt_of_cell? w _ hx112_0)).trans hx112_0
          replace hx112_1 := (HB.out.cell (World.block_lt_of_cell? w _ hx112_1)).trans hx112_1
          replace hx112_2 := (HB.out.cell (World.block_lt_of_cell? w _ hx112_2)).trans hx112_2
          replace hx112_3 := (HB.out.cell (World.block_lt_of_cell? w _ hx112_3)).trans hx112_3
          replace hx112_4 := (HB.out.cell (World.block_lt_of_cell? w _ hx112_4)).trans hx112_4
          replace hx112_5 := (HB.out.cell (World.block_lt_of_cell? w _ hx112_5)).trans hx112_5
          replace hx112_6 := (HB.out.cell (World.block_lt_of_cell? w _ hx112_6)).trans hx112_6
          replace p112 := eq_true p112
          replace q112 := eq_true q112
          have q17 : (x10_1 : Int) ≤ ((l0.length : Int) : Int) := of_decide_eq_true (by first | (with_reducible assumption) | assumption)
          obtain ⟨i017, hi017, _, hsz17, _⟩ := info_parts info28
          have hroom17 : l0.length ≤ c0 := HC0.out
          have hC17 : Kd.C k28 _ (some ad112) l0.length l0 := HR0.out
          have hcut17 := cut_to (P := Try.prog) 22 28 .i64 Try.underlying22 hi017 (some ad112) l0.length c0 x10_1 (of_decide_eq_true (by first | (with_reducible assumption) | assumption)) q17 hroom17
          have hr17 := Kd.C_take (m := (x10_1 : Int).toNat) hC17 (by omega)
          have hy17 : y115.length = (x10_1 : Int).toNat := (by rw [Ny115.out, List.length_take]; omega)
          rw [← Ny115.out] at hr17
          rw [← hy17] at hcut17
          have HR118 := Aside0.mk hr17
          have HC118 := am (show y115.length ≤ c0 from by omega)
          clear hr17 hC17 hroom17 hi017 hsz17
          have KY17 := Aside0.mk hy17
          clear hy17
          replace q17 := eq_true q17
          try go_wp2_with (first | ((with_reducible refine gate_dst (N := 4) rfl ?_); refine box_event ?hg (N := 4) ?hd (cs := #[.int .i64 0, .int .i64 0, .int .i64 0, .int .i64 0, .int .i64 0, .int .i64 0, .int .i64 0]) (t := 28) ?hr ?_; (case hd => rfl); (case hg => rfl); (case hr => first | (go_simp; done) | (go_simp; rfl)); intro gb113 hg w12 hbox hb; have n0_ := am (below_step (zL HB.out) hb); have n1_ := am (hbox); have n2_ := am (zS hg HB.out); have n3_ := am (zS hg HB.out); clear HB; have HB := n0_; have BK113 := n1_; have GW113 := n2_; have GE113 := n3_; clear n0_ n1_ n2_ n3_; clear hb hbox hg; have hcz13_0 : w12.cell? ⟨gb113, 0, none⟩ = some (.int .i64 0) := (blk_cell BK113.out 0).trans rfl; have hcz13_1 : w12.cell? ⟨gb113, 1, none⟩ = some (.int .i64 0) := (blk_cell BK113.out 1).trans rfl; have hcz13_2 : w12.cell? ⟨gb113, 2, none⟩ = some (.int .i64 0) := (blk_cell BK113.out 2).trans rfl; have hcz13_3 : w12.cell? ⟨gb113, 3, none⟩ = some (.int .i64 0) := (blk_cell BK113.out 3).trans rfl; have hcz13_4 : w12.cell? ⟨gb113, 4, none⟩ = some (.int .i64 0) := (blk_cell BK113.out 4).trans rfl; have hcz13_5 : w12.cell? ⟨gb113, 5, none⟩ = some (.int .i64 0) := (blk_cell BK113.out 5).trans rfl; have hcz13_6 : w12.cell? ⟨gb113, 6, none⟩ = some (.int .i64 0) := (blk_cell BK113.out 6).trans rfl; have hfz13_0 := blk_frozen BK113.out 0; have hfz13_1 := blk_frozen BK113.out 1; have hfz13_2 := blk_frozen BK113.out 2; have hfz13_3 := blk_frozen BK113.out 3; have hfz13_4 := blk_frozen BK113.out 4; have hfz13_5 := blk_frozen BK113.out 5; have hfz13_6 := blk_frozen BK113.out 6) | ((with_reducible refine gate_store (t := 28) (p := 4) rfl ?_); refine store_event (t := 28) (p := 4) (v := ?vo_w14) (w1 := (((((((w12.setCell ⟨gb113, 0, none⟩ (.int .i64 ((rd_T28 l0 x10_1).f0.f0))).setCell ⟨gb113, 1, none⟩ (.int .i64 ((rd_T28 l0 x10_1).f0.f1))).setCell ⟨gb113, 2, none⟩ (.int .i64 ((rd_T28 l0 x10_1).f0.f2))).setCell ⟨gb113, 3, none⟩ (.int .i64 ((rd_T28 l0 x10_1).f1.f0))).setCell ⟨gb113, 4, none⟩ (.int .i64 ((rd_T28 l0 x10_1).f1.f1))).setCell ⟨gb113, 5, none⟩ (.int .i64 ((rd_T28 l0 x10_1).f2))).setCell ⟨gb113, 6, none⟩ (.int .i64 ((rd_T28 l0 x10_1).f3)))) ?hg ?ho ?hn ?hr ?_; (case ho => rfl); (case hg => rfl); (case hn => rfl); (case hr => first | (go_simp; done) | (go_simp; rfl)); intro w14 hw; have n0_ : Aside0 (w14.heap[gb113]? = some (.cells #[.int .i64 ((rd_T28 l0 x10_1).f0.f0), .int .i64 ((rd_T28 l0 x10_1).f0.f1), .int .i64 ((rd_T28 l0 x10_1).f0.f2), .int .i64 ((rd_T28 l0 x10_1).f1.f0), .int .i64 ((rd_T28 l0 x10_1).f1.f1), .int .i64 ((rd_T28 l0 x10_1).f2), .int .i64 ((rd_T28 l0 x10_1).f3)] 28 (0, 0))) := ⟨(by rw [hw]; exact (by refine blk_put (cs := #[.int .i64 ((rd_T28 l0 x10_1).f0.f0), .int .i64 ((rd_T28 l0 x10_1).f0.f1), .int .i64 ((rd_T28 l0 x10_1).f0.f2), .int .i64 ((rd_T28 l0 x10_1).f1.f0), .int .i64 ((rd_T28 l0 x10_1).f1.f1), .int .i64 ((rd_T28 l0 x10_1).f2), .int .i64 0]) ?_ 6 _ rfl; refine blk_put (cs := #[.int .i64 ((rd_T28 l0 x10_1).f0.f0), .int .i64 ((rd_T28 l0 x10_1).f0.f1), .int .i64 ((rd_T28 l0 x10_1).f0.f2), .int .i64 ((rd_T28 l0 x10_1).f1.f0), .int .i64 ((rd_T28 l0 x10_1).f1.f1), .int .i64 0, .int .i64 0]) ?_ 5 _ rfl; refine blk_put (cs := #[.int .i64 ((rd_T28 l0 x10_1).f0.f0), .int .i64 ((rd_T28 l0 x10_1).f0.f1), .int .i64 ((rd_T28 l0 x10_1).f0.f2), .int .i64 ((rd_T28 l0 x10_1).f1.f0), .int .i64 0, .int .i64 0, .int .i64 0]) ?_ 4 _ rfl; refine blk_put (cs := #[.int .i64 ((rd_T28 l0 x10_1).f0.f0), .int .i64 ((rd_T28 l0 x10_1).f0.f1), .int .i64 ((rd_T28 l0 x10_1).f0.f2), .int .i64 0, .int .i64 0, .int .i64 0, .int .i64 0]) ?_ 3 _ rfl; refine blk_put (cs := #[.int .i64 ((rd_T28 l0 x10_1).f0.f0), .int .i64 ((rd_T28 l0 x10_1).f0.f1), .int .i64 0, .int .i64 0, .int .i64 0, .int .i64 0, .int .i64 0]) ?_ 2 _ rfl; refine blk_put (cs := #[.int .i64 ((rd_T28 l0 x10_1).f0.f0), .int .i64 0, .int .i64 0, .int .i64 0, .int .i64 0, .int .i64 0, .int .i64 0]) ?_ 1 _ rfl; refine blk_put (cs := #[.int .i64 0, .int .i64 0, .int .i64 0, .int .i64 0, .int .i64 0, .int .i64 0, .int .i64 0]) ?_ 0 _ rfl; exact zB <| BK113.out))⟩; have n1_ : Aside0 (Below w.heap.size w w14) := ⟨(by rw [hw]; exact (by repeat (first | (with_reducible first | exact HB.out | apply ba | apply bd | apply be | refine below_set ?_ GE113.out) | exact HB.out)))⟩; clear hw BK113 HB; have BK113 := n0_; have HB := n1_; clear n0_ n1_))
          have n0_ := am (blk_drew BK113.out)
          have n1_ := am (below_drew1 HB.out)
          clear BK113 HB
          have BK113 := n0_
          have HB := n1_
          clear n0_ n1_
          refine start_ (n := 12) (S := fun w' => w'.cell? ⟨gb113, 0, none⟩ = some (.int .i64 ((rd_T28 l0 x10_1).f0.f0)) ∧ w'.cell? ⟨gb113, 1, none⟩ = some (.int .i64 ((rd_T28 l0 x10_1).f0.f1)) ∧ w'.cell? ⟨gb113, 2, none⟩ = some (.int .i64 ((rd_T28 l0 x10_1).f0.f2)) ∧ w'.cell? ⟨gb113, 3, none⟩ = some (.int .i64 ((rd_T28 l0 x10_1).f1.f0)) ∧ w'.cell? ⟨gb113, 4, none⟩ = some (.int .i64 ((rd_T28 l0 x10_1).f1.f1)) ∧ w'.cell? ⟨gb113, 5, none⟩ = some (.int .i64 ((rd_T28 l0 x10_1).f2)) ∧ w'.cell? ⟨gb113, 6, none⟩ = some (.int .i64 ((rd_T28 l0 x10_1).f3))) (ds := []) #[false, false, false, false, false, false, false, false, false, false, false, false] (by kernel_rfl) rfl rfl ⟨(blk_cell BK113.out 0).trans rfl, (blk_cell BK113.out 1).trans rfl, (blk_cell BK113.out 2).trans rfl, (blk_cell BK113.out 3).trans rfl, (blk_cell BK113.out 4).trans rfl, (blk_cell BK113.out 5).trans rfl, (blk_cell BK113.out 6).trans rfl⟩ (fun hHeld => ?_); refine with_tabW line_Valid.tab6 line_Valid.bits6 (fun HT_ HW_ => ?_)
          generalize w14.drew = w15 at BK113 HB hHeld ⊢
          refine take_ (i := 0) (N := some 15) (v := ?_) (a' := ?_) #[true, false, false, false, false, false, false, false, false, false, false, false] rfl rfl (take_ofW HT_.out HW_.out (by kernel_rfl)) (fun _ _ _ h => h) (Or.inl ⟨by rfl, ?_⟩) hHeld ?_ ?_
          rotate_left
          ·rintro w' ⟨s0, s1, s2, s3, s4, s5, s6⟩
           go_simp
           with_reducible rfl
          rotate_left
          ·simp only [Act.put, List.setIfInBounds_toArray, List.set_cons_zero, List.set_cons_succ, i64_w, i32_w]
           rfl
          refine one_ (i := 1) (N := some 16) #[true, true, false, false, false, false, false, false, false, false, false, false] rfl rfl (one_of HT_.out (by kernel_rfl)) (by decide) (fun K hK => ?_)
          refine goes_ Try.func11 (by kernel_rfl) rfl #[.agg #[.int .i64 ((rd_T28 l0 x10_1).f0.f0), .int .i64 ((rd_T28 l0 x10_1).f0.f1), .int .i64 ((rd_T28 l0 x10_1).f0.f2), .int .i64 ((rd_T28 l0 x10_1).f1.f0), .int .i64 ((rd_T28 l0 x10_1).f1.f1), .int .i64 ((rd_T28 l0 x10_1).f2), .int .i64 ((rd_T28 l0 x10_1).f3)]] (by rfl) rfl rfl (by (try simp only [List.map_toArray, List.map_cons, List.map_nil]); first | done | rfl | (simp only [List.length_drop, List.length_take]; rfl)) ?_
          with_reducible refine (line_ValidWait.calls ((rd_T28 l0 x10_1).f0.f0) ((rd_T28 l0 x10_1).f0.f1) ((rd_T28 l0 x10_1).f0.f2) ((rd_T28 l0 x10_1).f1.f0) ((rd_T28 l0 x10_1).f1.f1) ((rd_T28 l0 x10_1).f2) ((rd_T28 l0 x10_1).f3) true _ A6.out).mono ?_
          rintro e w16 ⟨rfl, hb⟩
          refine ⟨_, rfl, ?_⟩
          have n0_ := am (blk_below (zB BK113.out) hb)
          have n1_ := am (below_step (zL HB.out) hb)
          clear BK113 HB
          have BK113 := n0_
          have HB := n1_
          clear n0_ n1_
          (try clear hb)
          (try clear hb2)
          (try clear hk)
          (try clear hi)
          refine hK.out _ _ ⟨(blk_cell BK113.out 0).trans rfl, (blk_cell BK113.out 1).trans rfl, (blk_cell BK113.out 2).trans rfl, (blk_cell BK113.out 3).trans rfl, (blk_cell BK113.out 4).trans rfl, (blk_cell BK113.out 5).trans rfl, (blk_cell BK113.out 6).trans rfl⟩ (fun hHeld => ?_)
          clear hK K
          refine norm_ (a' := ?_) ?_ ?_
          rotate_left
          ·show Act.put _ (some 16) _ = _
           simp only [Act.put, List.setIfInBounds_toArray, List.set_cons_zero, List.set_cons_succ, i64_w, i32_w]
           rfl
          refine pure_ (i := 2) (N := some 17) (v := ?_) (a' := ?_) #[true, true, true, false, false, false, false, false, false, false, false, false] rfl rfl (any_of HT_.out (by kernel_rfl)) (fun _ _ _ h => h) (Or.inl ⟨by rfl, ?_⟩) ?_ ?_
          rotate_left
          ·intro w'
           go_simp
           with_reducible rfl
          rotate_left
          ·simp only [Act.put, List.setIfInBounds_toArray, List.set_cons_zero, List.set_cons_succ, i64_w, i32_w]
           rfl
          refine pure_ (i := 3) (N := some 18) (v := ?_) (a' := ?_) #[true, true, true, true, false, false, false, false, false, false, false, false] rfl rfl (any_of HT_.out (by kernel_rfl)) (fun _ _ _ h => h) (Or.inl ⟨by rfl, ?_⟩) ?_ ?_
          rotate_left
          ·intro w'
           go_simp
           with_reducible rfl
          rotate_left
          ·simp only [Act.put, List.setIfInBounds_toArray, List.set_cons_zero, List.set_cons_succ, i64_w, i32_w]
           rfl
          refine pure_ (i := 4) (N := some 19) (v := ?_) (a' := ?_) #[true, true, true, true, true, false, false, false, false, false, false, false] rfl rfl (any_of HT_.out (by kernel_rfl)) (fun _ _ _ h => h) (Or.inl ⟨by rfl, ?_⟩) ?_ ?_
          rotate_left
          ·intro w'
           go_simp
           with_reducible rfl
          rotate_left
          ·simp only [Act.put, List.setIfInBounds_toArray, List.set_cons_zero, List.set_cons_succ, i64_w, i32_w]
           rfl
          refine pure_ (i := 5) (N := some 20) (v := ?_) (a' := ?_) #[true, true, true, true, true, true, false, false, false, false, false, false] rfl rfl (any_of HT_.out (by kernel_rfl)) (fun _ _ _ h => h) (Or.inl ⟨by rfl, ?_⟩) ?_ ?_
          rotate_left
          ·intro w'
           go_simp
           with_reducible rfl
          rotate_left
          ·simp only [Act.put, List.setIfInBounds_toArray, List.set_cons_zero, List.set_cons_succ, i64_w, i32_w]
           rfl
          refine pure_ (i := 6) (N := some 21) (v := ?_) (a' := ?_) #[true, true, true, true, true, true, true, false, false, false, false, false] rfl rfl (any_of HT_.out (by kernel_rfl)) (fun _ _ _ h => h) (Or.inl ⟨by rfl, ?_⟩) ?_ ?_
          rotate_left
          ·intro w'
           go_simp
           with_reducible rfl
          rotate_left
          ·simp only [Act.put, List.setIfInBounds_toArray, List.set_cons_zero, List.set_cons_succ, i64_w, i32_w]
           rfl
          refine pure_ (i := 7) (N := some 22) (v := ?_) (a' := ?_) #[true, true, true, true, true, true, true, true, false, false, false, false] rfl rfl (any_of HT_.out (by kernel_rfl)) (fun _ _ _ h => h) (Or.inl ⟨by rfl, ?_⟩) ?_ ?_
          rotate_left
          ·intro w'
           go_simp
           with_reducible rfl
          rotate_left
          ·simp only [Act.put, List.setIfInBounds_toArray, List.set_cons_zero, List.set_cons_succ, i64_w, i32_w]
           rfl
          refine take_ (i := 8) (N := some 23) (v := ?_) (a' := ?_) #[true, true, true, true, true, true, true, true, true, false, false, false] rfl rfl (take_ofW HT_.out HW_.out (by kernel_rfl)) (fun _ _ _ h => h) (Or.inl ⟨by rfl, ?_⟩) hHeld ?_ ?_
          rotate_left
          ·rintro w' ⟨s0, s1, s2, s3, s4, s5, s6⟩
           go_simp
           with_reducible rfl
          rotate_left
          ·simp only [Act.put, List.setIfInBounds_toArray, List.set_cons_zero, List.set_cons_succ, i64_w, i32_w]
           rfl
          refine one_ (i := 9) (N := some 24) #[true, true, true, true, true, true, true, true, true, true, false, false] rfl rfl (one_of HT_.out (by kernel_rfl)) (by decide) (fun K hK => ?_)
          refine goes_ Try.func21 (by kernel_rfl) rfl #[.slice (some ad112) y115.length c0, .agg #[.int .i64 ((rd_T28 l0 x10_1).f0.f0), .int .i64 ((rd_T28 l0 x10_1).f0.f1), .int .i64 ((rd_T28 l0 x10_1).f0.f2)]] (by rfl) rfl rfl (by (try simp only [List.map_toArray, List.map_cons, List.map_nil]); first | done | rfl | (simp only [List.length_drop, List.length_take]; rfl)) ?_
          with_reducible refine (line_Find.calls _ _ y115 ((rd_T28 l0 x10_1).f0.f0) ((rd_T28 l0 x10_1).f0.f1) ((rd_T28 l0 x10_1).f0.f2) t119 _ ?side1 ?side2 A10.out).mono ?_
          (case side1 => exact zC (Kd.C_below HR118.out HB.out))
          (case side2 => exact HC118.out)
          rintro e w18 ⟨rfl, hb⟩
          refine ⟨_, rfl, ?_⟩
          have n0_ := am (blk_below (zB BK113.out) hb)
          have n1_ := am (below_step (zL HB.out) hb)
          clear BK113 HB
          have BK113 := n0_
          have HB := n1_
          clear n0_ n1_
          (try clear hb)
          (try clear hb2)
          (try clear hk)
          (try clear hi)
          refine hK.out _ _ ⟨(blk_cell BK113.out 0).trans rfl, (blk_cell BK113.out 1).trans rfl, (blk_cell BK113.out 2).trans rfl, (blk_cell BK113.out 3).trans rfl, (blk_cell BK113.out 4).trans rfl, (blk_cell BK113.out 5).trans rfl, (blk_cell BK113.out 6).trans rfl⟩ (fun hHeld => ?_)
          clear hK K
          refine norm_ (a' := ?_) ?_ ?_
          rotate_left
          ·show Act.put _ (some 24) _ = _
           simp only [Act.put, List.setIfInBounds_toArray, List.set_cons_zero, List.set_cons_succ, i64_w, i32_w]
           rfl
          refine pure_ (i := 10) (N := some 25) (v := ?_) (a' := ?_) #[true, true, true, true, true, true, true, true, true, true, true, false] rfl rfl (any_of HT_.out (by kernel_rfl)) (fun _ _ _ h => h) (Or.inl ⟨by rfl, ?_⟩) ?_ ?_
          rotate_left
          ·intro w'
           go_simp
           with_reducible rfl
          rotate_left
          ·simp only [Act.put, List.setIfInBounds_toArray, List.set_cons_zero, List.set_cons_succ, i64_w, i32_w]
           rfl
          refine pure_ (i := 11) (N := some 26) (v := ?_) (a' := ?_) #[true, true, true, true, true, true, true, true, true, true, true, true] rfl rfl (any_of HT_.out (by kernel_rfl)) (fun _ _ _ h => h) (Or.inl ⟨by rfl, ?_⟩) ?_ ?_
          rotate_left
          ·intro w'
           go_simp
           with_reducible rfl
          rotate_left
          ·simp only [Act.put, List.setIfInBounds_toArray, List.set_cons_zero, List.set_cons_succ, i64_w, i32_w]
           rfl
          refine done_ (done_of HT_.out (by kernel_rfl)) ?_
          try go_wp2
          go_ret
          exact ⟨by first | rfl | (simp [errW_none, errW_some] <;> rfl) | (simp [*, errW_none, errW_some] <;> rfl), by repeat (first | (with_reducible first | exact HB.out | apply ba | apply bd | apply be | refine below_set ?_ GE113.out) | exact HB.out)⟩
         ·rw [if_neg c11] at H
          have c11b0 : decide (0 ≤ t119) = false := decide_eq_false c11
          clear c11
          have H' := Aside0.mk H
          clear H
          have p112 : 0 ≤ (x10_1 : Int) := of_decide_eq_true (by first | (with_reducible assumption) | assumption)
          have q112 : x10_1 < (l0.length : Int) := of_decide_eq_true (by first | (with_reducible assumption) | assumption)
          obtain ⟨ad112, e112, hx112_0, hx112_1, hx112_2, hx112_3, hx112_4, hx112_5, hx112_6⟩ := at_T28 HR0.out x10_1 p112 q112
          cases e112
          replace hx112_0 := (HB.out.cell (World.block_lt_of_cell? w _ hx112_0)).trans hx112_0
          replace hx112_1 := (HB.out.cell (World.block_lt_of_cell? w _ hx112_1)).trans hx112_1
          replace hx112_2 := (HB.out.cell (World.block_lt_of_cell? w _ hx112_2)).trans hx112_2
          replace hx112_3 := (HB.out.cell (World.block_lt_of_cell? w _ hx112_3)).trans hx112_3
          replace hx112_4 := (HB.out.cell (World.block_lt_of_cell? w _ hx112_4)).trans hx112_4
          replace hx112_5 := (HB.out.cell (World.block_lt_of_cell? w _ hx112_5)).trans hx112_5
          replace hx112_6 := (HB.out.cell (World.block_lt_of_cell? w _ hx112_6)).trans hx112_6
          replace p112 := eq_true p112
          replace q112 := eq_true q112
          have q24 : (x10_1 : Int) ≤ ((l0.length : Int) : Int) := of_decide_eq_true (by first | (with_reducible assumption) | assumption)
          obtain ⟨i024, hi024, _, hsz24, _⟩ := info_parts info28
          have hroom24 : l0.length ≤ c0 := HC0.out
          have hC24 : Kd.C k28 _ (some ad112) l0.length l0 := HR0.out
          have hcut24 := cut_to (P := Try.prog) 22 28 .i64 Try.underlying22 hi024 (some ad112) l0.length c0 x10_1 (of_decide_eq_true (by first | (with_reducible assumption) | assumption)) q24 hroom24
          have hr24 := Kd.C_take (m := (x10_1 : Int).toNat) hC24 (by omega)
          have hy24 : y115.length = (x10_1 : Int).toNat := (by rw [Ny115.out, List.length_take]; omega)
          rw [← Ny115.out] at hr24
          rw [← hy24] at hcut24
          have HR118 := Aside0.mk hr24
          have HC118 := am (show y115.length ≤ c0 from by omega)
          clear hr24 hC24 hroom24 hi024 hsz24
          have KY24 := Aside0.mk hy24
          clear hy24
          replace q24 := eq_true q24
          try go_wp2_with (first | ((with_reducible refine gate_dst (N := 4) rfl ?_); refine box_event ?hg (N := 4) ?hd (cs := #[.int .i64 0, .int .i64 0, .int .i64 0, .int .i64 0, .int .i64 0, .int .i64 0, .int .i64 0]) (t := 28) ?hr ?_; (case hd => rfl); (case hg => rfl); (case hr => first | (go_simp; done) | (go_simp; rfl)); intro gb113 hg w19 hbox hb; have n0_ := am (below_step (zL HB.out) hb); have n1_ := am (hbox); have n2_ := am (zS hg HB.out); have n3_ := am (zS hg HB.out); clear HB; have HB := n0_; have BK113 := n1_; have GW113 := n2_; have GE113 := n3_; clear n0_ n1_ n2_ n3_; clear hb hbox hg; have hcz20_0 : w19.cell? ⟨gb113, 0, none⟩ = some (.int .i64 0) := (blk_cell BK113.out 0).trans rfl; have hcz20_1 : w19.cell? ⟨gb113, 1, none⟩ = some (.int .i64 0) := (blk_cell BK113.out 1).trans rfl; have hcz20_2 : w19.cell? ⟨gb113, 2, none⟩ = some (.int .i64 0) := (blk_cell BK113.out 2).trans rfl; have hcz20_3 : w19.cell? ⟨gb113, 3, none⟩ = some (.int .i64 0) := (blk_cell BK113.out 3).trans rfl; have hcz20_4 : w19.cell? ⟨gb113, 4, none⟩ = some (.int .i64 0) := (blk_cell BK113.out 4).trans rfl; have hcz20_5 : w19.cell? ⟨gb113, 5, none⟩ = some (.int .i64 0) := (blk_cell BK113.out 5).trans rfl; have hcz20_6 : w19.cell? ⟨gb113, 6, none⟩ = some (.int .i64 0) := (blk_cell BK113.out 6).trans rfl; have hfz20_0 := blk_frozen BK113.out 0; have hfz20_1 := blk_frozen BK113.out 1; have hfz20_2 := blk_frozen BK113.out 2; have hfz20_3 := blk_frozen BK113.out 3; have hfz20_4 := blk_frozen BK113.out 4; have hfz20_5 := blk_frozen BK113.out 5; have hfz20_6 := blk_frozen BK113.out 6) | ((with_reducible refine gate_store (t := 28) (p := 4) rfl ?_); refine store_event (t := 28) (p := 4) (v := ?vo_w21) (w1 := (((((((w19.setCell ⟨gb113, 0, none⟩ (.int .i64 ((rd_T28 l0 x10_1).f0.f0))).setCell ⟨gb113, 1, none⟩ (.int .i64 ((rd_T28 l0 x10_1).f0.f1))).setCell ⟨gb113, 2, none⟩ (.int .i64 ((rd_T28 l0 x10_1).f0.f2))).setCell ⟨gb113, 3, none⟩ (.int .i64 ((rd_T28 l0 x10_1).f1.f0))).setCell ⟨gb113, 4, none⟩ (.int .i64 ((rd_T28 l0 x10_1).f1.f1))).setCell ⟨gb113, 5, none⟩ (.int .i64 ((rd_T28 l0 x10_1).f2))).setCell ⟨gb113, 6, none⟩ (.int .i64 ((rd_T28 l0 x10_1).f3)))) ?hg ?ho ?hn ?hr ?_; (case ho => rfl); (case hg => rfl); (case hn => rfl); (case hr => first | (go_simp; done) | (go_simp; rfl)); intro w21 hw; have n0_ : Aside0 (w21.heap[gb113]? = some (.cells #[.int .i64 ((rd_T28 l0 x10_1).f0.f0), .int .i64 ((rd_T28 l0 x10_1).f0.f1), .int .i64 ((rd_T28 l0 x10_1).f0.f2), .int .i64 ((rd_T28 l0 x10_1).f1.f0), .int .i64 ((rd_T28 l0 x10_1).f1.f1), .int .i64 ((rd_T28 l0 x10_1).f2), .int .i64 ((rd_T28 l0 x10_1).f3)] 28 (0, 0))) := ⟨(by rw [hw]; exact (by refine blk_put (cs := #[.int .i64 ((rd_T28 l0 x10_1).f0.f0), .int .i64 ((rd_T28 l0 x10_1).f0.f1), .int .i64 ((rd_T28 l0 x10_1).f0.f2), .int .i64 ((rd_T28 l0 x10_1).f1.f0), .int .i64 ((rd_T28 l0 x10_1).f1.f1), .int .i64 ((rd_T28 l0 x10_1).f2), .int .i64 0]) ?_ 6 _ rfl; refine blk_put (cs := #[.int .i64 ((rd_T28 l0 x10_1).f0.f0), .int .i64 ((rd_T28 l0 x10_1).f0.f1), .int .i64 ((rd_T28 l0 x10_1).f0.f2), .int .i64 ((rd_T28 l0 x10_1).f1.f0), .int .i64 ((rd_T28 l0 x10_1).f1.f1), .int .i64 0, .int .i64 0]) ?_ 5 _ rfl; refine blk_put (cs := #[.int .i64 ((rd_T28 l0 x10_1).f0.f0), .int .i64 ((rd_T28 l0 x10_1).f0.f1), .int .i64 ((rd_T28 l0 x10_1).f0.f2), .int .i64 ((rd_T28 l0 x10_1).f1.f0), .int .i64 0, .int .i64 0, .int .i64 0]) ?_ 4 _ rfl; refine blk_put (cs := #[.int .i64 ((rd_T28 l0 x10_1).f0.f0), .int .i64 ((rd_T28 l0 x10_1).f0.f1), .int .i64 ((rd_T28 l0 x10_1).f0.f2), .int .i64 0, .int .i64 0, .int .i64 0, .int .i64 0]) ?_ 3 _ rfl; refine blk_put (cs := #[.int .i64 ((rd_T28 l0 x10_1).f0.f0), .int .i64 ((rd_T28 l0 x10_1).f0.f1), .int .i64 0, .int .i64 0, .int .i64 0, .int .i64 0, .int .i64 0]) ?_ 2 _ rfl; refine blk_put (cs := #[.int .i64 ((rd_T28 l0 x10_1).f0.f0), .int .i64 0, .int .i64 0, .int .i64 0, .int .i64 0, .int .i64 0, .int .i64 0]) ?_ 1 _ rfl; refine blk_put (cs := #[.int .i64 0, .int .i64 0, .int .i64 0, .int .i64 0, .int .i64 0, .int .i64 0, .int .i64 0]) ?_ 0 _ rfl; exact zB <| BK113.out))⟩; have n1_ : Aside0 (Below w.heap.size w w21) := ⟨(by rw [hw]; exact (by repeat (first | (with_reducible first | exact HB.out | apply ba | apply bd | apply be | refine below_set ?_ GE113.out) | exact HB.out)))⟩; clear hw BK113 HB; have BK113 := n0_; have HB := n1_; clear n0_ n1_))
          have n0_ := am (blk_drew BK113.out)
          have n1_ := am (below_drew1 HB.out)
          clear BK113 HB
          have BK113 := n0_
          have HB := n1_
          clear n0_ n1_
          refine start_ (n := 12) (S := fun w' => w'.cell? ⟨gb113, 0, none⟩ = some (.int .i64 ((rd_T28 l0 x10_1).f0.f0)) ∧ w'.cell? ⟨gb113, 1, none⟩ = some (.int .i64 ((rd_T28 l0 x10_1).f0.f1)) ∧ w'.cell? ⟨gb113, 2, none⟩ = some (.int .i64 ((rd_T28 l0 x10_1).f0.f2)) ∧ w'.cell? ⟨gb113, 3, none⟩ = some (.int .i64 ((rd_T28 l0 x10_1).f1.f0)) ∧ w'.cell? ⟨gb113, 4, none⟩ = some (.int .i64 ((rd_T28 l0 x10_1).f1.f1)) ∧ w'.cell? ⟨gb113, 5, none⟩ = some (.int .i64 ((rd_T28 l0 x10_1).f2)) ∧ w'.cell? ⟨gb113, 6, none⟩ = some (.int .i64 ((rd_T28 l0 x10_1).f3))) (ds := []) #[false, false, false, false, false, false, false, false, false, false, false, false] (by kernel_rfl) rfl rfl ⟨(blk_cell BK113.out 0).trans rfl, (blk_cell BK113.out 1).trans rfl, (blk_cell BK113.out 2).trans rfl, (blk_cell BK113.out 3).trans rfl, (blk_cell BK113.out 4).trans rfl, (blk_cell BK113.out 5).trans rfl, (blk_cell BK113.out 6).trans rfl⟩ (fun hHeld => ?_); refine with_tabW line_Valid.tab6 line_Valid.bits6 (fun HT_ HW_ => ?_)
          generalize w21.drew = w22 at BK113 HB hHeld ⊢
          refine take_ (i := 0) (N := some 15) (v := ?_) (a' := ?_) #[true, false, false, false, false, false, false, false, false, false, false, false] rfl rfl (take_ofW HT_.out HW_.out (by kernel_rfl)) (fun _ _ _ h => h) (Or.inl ⟨by rfl, ?_⟩) hHeld ?_ ?_
          rotate_left
          ·rintro w' ⟨s0, s1, s2, s3, s4, s5, s6⟩
           go_simp
           with_reducible rfl
          rotate_left
          ·simp only [Act.put, List.setIfInBounds_toArray, List.set_cons_zero, List.set_cons_succ, i64_w, i32_w]
           rfl
          refine one_ (i := 1) (N := some 16) #[true, true, false, false, false, false, false, false, false, false, false, false] rfl rfl (one_of HT_.out (by kernel_rfl)) (by decide) (fun K hK => ?_)
          refine goes_ Try.func11 (by kernel_rfl) rfl #[.agg #[.int .i64 ((rd_T28 l0 x10_1).f0.f0), .int .i64 ((rd_T28 l0 x10_1).f0.f1), .int .i64 ((rd_T28 l0 x10_1).f0.f2), .int .i64 ((rd_T28 l0 x10_1).f1.f0), .int .i64 ((rd_T28 l0 x10_1).f1.f1), .int .i64 ((rd_T28 l0 x10_1).f2), .int .i64 ((rd_T28 l0 x10_1).f3)]] (by rfl) rfl rfl (by (try simp only [List.map_toArray, List.map_cons, List.map_nil]); first | done | rfl | (simp only [List.length_drop, List.length_take]; rfl)) ?_
          with_reducible refine (line_ValidWait.calls ((rd_T28 l0 x10_1).f0.f0) ((rd_T28 l0 x10_1).f0.f1) ((rd_T28 l0 x10_1).f0.f2) ((rd_T28 l0 x10_1).f1.f0) ((rd_T28 l0 x10_1).f1.f1) ((rd_T28 l0 x10_1).f2) ((rd_T28 l0 x10_1).f3) true _ A6.out).mono ?_
          rintro e w23 ⟨rfl, hb⟩
          refine ⟨_, rfl, ?_⟩
          have n0_ := am (blk_below (zB BK113.out) hb)
          have n1_ := am (below_step (zL HB.out) hb)
          clear BK113 HB
          have BK113 := n0_
          have HB := n1_
          clear n0_ n1_
          (try clear hb)
          (try clear hb2)
          (try clear hk)
          (try clear hi)
          refine hK.out _ _ ⟨(blk_cell BK113.out 0).trans rfl, (blk_cell BK113.out 1).trans rfl, (blk_cell BK113.out 2).trans rfl, (blk_cell BK113.out 3).trans rfl, (blk_cell BK113.out 4).trans rfl, (blk_cell BK113.out 5).trans rfl, (blk_cell BK113.out 6).trans rfl⟩ (fun hHeld => ?_)
          clear hK K
          refine norm_ (a' := ?_) ?_ ?_
          rotate_left
          ·show Act.put _ (some 16) _ = _
           simp only [Act.put, List.setIfInBounds_toArray, List.set_cons_zero, List.set_cons_succ, i64_w, i32_w]
           rfl
          refine pure_ (i := 2) (N := some 17) (v := ?_) (a' := ?_) #[true, true, true, false, false, false, false, false, false, false, false, false] rfl rfl (any_of HT_.out (by kernel_rfl)) (fun _ _ _ h => h) (Or.inl ⟨by rfl, ?_⟩) ?_ ?_
          rotate_left
          ·intro w'
           go_simp
           with_reducible rfl
          rotate_left
          ·simp only [Act.put, List.setIfInBounds_toArray, List.set_cons_zero, List.set_cons_succ, i64_w, i32_w]
           rfl
          refine pure_ (i := 3) (N := some 18) (v := ?_) (a' := ?_) #[true, true, true, true, false, false, false, false, false, false, false, false] rfl rfl (any_of HT_.out (by kernel_rfl)) (fun _ _ _ h => h) (Or.inl ⟨by rfl, ?_⟩) ?_ ?_
          rotate_left
          ·intro w'
           go_simp
           with_reducible rfl
          rotate_left
          ·simp only [Act.put, List.setIfInBounds_toArray, List.set_cons_zero, List.set_cons_succ, i64_w, i32_w]
           rfl
          refine pure_ (i := 4) (N := some 19) (v := ?_) (a' := ?_) #[true, true, true, true, true, false, false, false, false, false, false, false] rfl rfl (any_of HT_.out (by kernel_rfl)) (fun _ _ _ h => h) (Or.inl ⟨by rfl, ?_⟩) ?_ ?_
          rotate_left
          ·intro w'
           go_simp
           with_reducible rfl
          rotate_left
          ·simp only [Act.put, List.setIfInBounds_toArray, List.set_cons_zero, List.set_cons_succ, i64_w, i32_w]
           rfl
          refine pure_ (i := 5) (N := some 20) (v := ?_) (a' := ?_) #[true, true, true, true, true, true, false, false, false, false, false, false] rfl rfl (any_of HT_.out (by kernel_rfl)) (fun _ _ _ h => h) (Or.inl ⟨by rfl, ?_⟩) ?_ ?_
          rotate_left
          ·intro w'
           go_simp
           with_reducible rfl
          rotate_left
          ·simp only [Act.put, List.setIfInBounds_toArray, List.set_cons_zero, List.set_cons_succ, i64_w, i32_w]
           rfl
          refine pure_ (i := 6) (N := some 21) (v := ?_) (a' := ?_) #[true, true, true, true, true, true, true, false, false, false, false, false] rfl rfl (any_of HT_.out (by kernel_rfl)) (fun _ _ _ h => h) (Or.inl ⟨by rfl, ?_⟩) ?_ ?_
          rotate_left
          ·intro w'
           go_simp
           with_reducible rfl
          rotate_left
          ·simp only [Act.put, List.setIfInBounds_toArray, List.set_cons_zero, List.set_cons_succ, i64_w, i32_w]
           rfl
          refine pure_ (i := 7) (N := some 22) (v := ?_) (a' := ?_) #[true, true, true, true, true, true, true, true, false, false, false, false] rfl rfl (any_of HT_.out (by kernel_rfl)) (fun _ _ _ h => h) (Or.inl ⟨by rfl, ?_⟩) ?_ ?_
          rotate_left
          ·intro w'
           go_simp
           with_reducible rfl
          rotate_left
          ·simp only [Act.put, List.setIfInBounds_toArray, List.set_cons_zero, List.set_cons_succ, i64_w, i32_w]
           rfl
          refine take_ (i := 8) (N := some 23) (v := ?_) (a' := ?_) #[true, true, true, true, true, true, true, true, true, false, false, false] rfl rfl (take_ofW HT_.out HW_.out (by kernel_rfl)) (fun _ _ _ h => h) (Or.inl ⟨by rfl, ?_⟩) hHeld ?_ ?_
          rotate_left
          ·rintro w' ⟨s0, s1, s2, s3, s4, s5, s6⟩
           go_simp
           with_reducible rfl
          rotate_left
          ·simp only [Act.put, List.setIfInBounds_toArray, List.set_cons_zero, List.set_cons_succ, i64_w, i32_w]
           rfl
          refine one_ (i := 9) (N := some 24) #[true, true, true, true, true, true, true, true, true, true, false, false] rfl rfl (one_of HT_.out (by kernel_rfl)) (by decide) (fun K hK => ?_)
          refine goes_ Try.func21 (by kernel_rfl) rfl #[.slice (some ad112) y115.length c0, .agg #[.int .i64 ((rd_T28 l0 x10_1).f0.f0), .int .i64 ((rd_T28 l0 x10_1).f0.f1), .int .i64 ((rd_T28 l0 x10_1).f0.f2)]] (by rfl) rfl rfl (by (try simp only [List.map_toArray, List.map_cons, List.map_nil]); first | done | rfl | (simp only [List.length_drop, List.length_take]; rfl)) ?_
          with_reducible refine (line_Find.calls _ _ y115 ((rd_T28 l0 x10_1).f0.f0) ((rd_T28 l0 x10_1).f0.f1) ((rd_T28 l0 x10_1).f0.f2) t119 _ ?side1 ?side2 A10.out).mono ?_
          (case side1 => exact zC (Kd.C_below HR118.out HB.out))
          (case side2 => exact HC118.out)
          rintro e w25 ⟨rfl, hb⟩
          refine ⟨_, rfl, ?_⟩
          have n0_ := am (blk_below (zB BK113.out) hb)
          have n1_ := am (below_step (zL HB.out) hb)
          clear BK113 HB
          have BK113 := n0_
          have HB := n1_
          clear n0_ n1_
          (try clear hb)
          (try clear hb2)
          (try clear hk)
          (try clear hi)
          refine hK.out _ _ ⟨(blk_cell BK113.out 0).trans rfl, (blk_cell BK113.out 1).trans rfl, (blk_cell BK113.out 2).trans rfl, (blk_cell BK113.out 3).trans rfl, (blk_cell BK113.out 4).trans rfl, (blk_cell BK113.out 5).trans rfl, (blk_cell BK113.out 6).trans rfl⟩ (fun hHeld => ?_)
          clear hK K
          refine norm_ (a' := ?_) ?_ ?_
          rotate_left
          ·show Act.put _ (some 24) _ = _
           simp only [Act.put, List.setIfInBounds_toArray, List.set_cons_zero, List.set_cons_succ, i64_w, i32_w]
           rfl
          refine pure_ (i := 10) (N := some 25) (v := ?_) (a' := ?_) #[true, true, true, true, true, true, true, true, true, true, true, false] rfl rfl (any_of HT_.out (by kernel_rfl)) (fun _ _ _ h => h) (Or.inl ⟨by rfl, ?_⟩) ?_ ?_
          rotate_left
          ·intro w'
           go_simp
           with_reducible rfl
          rotate_left
          ·simp only [Act.put, List.setIfInBounds_toArray, List.set_cons_zero, List.set_cons_succ, i64_w, i32_w]
           rfl
          refine pure_ (i := 11) (N := some 26) (v := ?_) (a' := ?_) #[true, true, true, true, true, true, true, true, true, true, true, true] rfl rfl (any_of HT_.out (by kernel_rfl)) (fun _ _ _ h => h) (Or.inl ⟨by rfl, ?_⟩) ?_ ?_
          rotate_left
          ·intro w'
           go_simp
           with_reducible rfl
          rotate_left
          ·simp only [Act.put, List.setIfInBounds_toArray, List.set_cons_zero, List.set_cons_succ, i64_w, i32_w]
           rfl
          refine done_ (done_of HT_.out (by kernel_rfl)) ?_
          try go_wp2
          go_roundg k1
          case measure => have := HK1.out; omega
          case rel => exact ⟨(wrap64 (x10_1 + 1)), (by first | rfl | (simp; done) | (simp [*]; done)), H', ⟨by have := HK1.out; omega⟩, ⟨by repeat (first | (with_reducible first | exact HB.out | apply ba | apply bd | apply be | refine below_set ?_ GE113.out) | exact HB.out)⟩⟩
        ·rw [if_neg c9] at H
         exact absurd H (by simp)
       ·replace c7 := Bool.eq_false_iff.mpr c7
        subst c7
        have H1 : (some false) = some r := by rw [if_neg (show ¬ (false = true) by decide)] at H; exact H
        clear H
        have H := H1
        clear H1
        obtain rfl := Option.some.inj H
        have p112 : 0 ≤ (x10_1 : Int) := of_decide_eq_true (by first | (with_reducible assumption) | assumption)
        have q112 : x10_1 < (l0.length : Int) := of_decide_eq_true (by first | (with_reducible assumption) | assumption)
        obtain ⟨ad112, e112, hx112_0, hx112_1, hx112_2, hx112_3, hx112_4, hx112_5, hx112_6⟩ := at_T28 HR0.out x10_1 p112 q112
        cases e112
        replace hx112_0 := (HB.out.cell (World.block_lt_of_cell? w _ hx112_0)).trans hx112_0
        replace hx112_1 := (HB.out.cell (World.block_lt_of_cell? w _ hx112_1)).trans hx112_1
        replace hx112_2 := (HB.out.cell (World.block_lt_of_cell? w _ hx112_2)).trans hx112_2
        replace hx112_3 := (HB.out.cell (World.block_lt_of_cell? w _ hx112_3)).trans hx112_3
        replace hx112_4 := (HB.out.cell (World.block_lt_of_cell? w _ hx112_4)).trans hx112_4
        replace hx112_5 := (HB.out.cell (World.block_lt_of_cell? w _ hx112_5)).trans hx112_5
        replace hx112_6 := (HB.out.cell (World.block_lt_of_cell? w _ hx112_6)).trans hx112_6
        replace p112 := eq_true p112
        replace q112 := eq_true q112
        try go_wp2_with (first | ((with_reducible refine gate_dst (N := 4) rfl ?_); refine box_event ?hg (N := 4) ?hd (cs := #[.int .i64 0, .int .i64 0, .int .i64 0, .int .i64 0, .int .i64 0, .int .i64 0, .int .i64 0]) (t := 28) ?hr ?_; (case hd => rfl); (case hg => rfl); (case hr => first | (go_simp; done) | (go_simp; rfl)); intro gb113 hg w26 hbox hb; have n0_ := am (below_step (zL HB.out) hb); have n1_ := am (hbox); have n2_ := am (zS hg HB.out); have n3_ := am (zS hg HB.out); clear HB; have HB := n0_; have BK113 := n1_; have GW113 := n2_; have GE113 := n3_; clear n0_ n1_ n2_ n3_; clear hb hbox hg; have hcz27_0 : w26.cell? ⟨gb113, 0, none⟩ = some (.int .i64 0) := (blk_cell BK113.out 0).trans rfl; have hcz27_1 : w26.cell? ⟨gb113, 1, none⟩ = some (.int .i64 0) := (blk_cell BK113.out 1).trans rfl; have hcz27_2 : w26.cell? ⟨gb113, 2, none⟩ = some (.int .i64 0) := (blk_cell BK113.out 2).trans rfl; have hcz27_3 : w26.cell? ⟨gb113, 3, none⟩ = some (.int .i64 0) := (blk_cell BK113.out 3).trans rfl; have hcz27_4 : w26.cell? ⟨gb113, 4, none⟩ = some (.int .i64 0) := (blk_cell BK113.out 4).trans rfl; have hcz27_5 : w26.cell? ⟨gb113, 5, none⟩ = some (.int .i64 0) := (blk_cell BK113.out 5).trans rfl; have hcz27_6 : w26.cell? ⟨gb113, 6, none⟩ = some (.int .i64 0) := (blk_cell BK113.out 6).trans rfl; have hfz27_0 := blk_frozen BK113.out 0; have hfz27_1 := blk_frozen BK113.out 1; have hfz27_2 := blk_frozen BK113.out 2; have hfz27_3 := blk_frozen BK113.out 3; have hfz27_4 := blk_frozen BK113.out 4; have hfz27_5 := blk_frozen BK113.out 5; have hfz27_6 := blk_frozen BK113.out 6) | ((with_reducible refine gate_store (t := 28) (p := 4) rfl ?_); refine store_event (t := 28) (p := 4) (v := ?vo_w28) (w1 := (((((((w26.setCell ⟨gb113, 0, none⟩ (.int .i64 ((rd_T28 l0 x10_1).f0.f0))).setCell ⟨gb113, 1, none⟩ (.int .i64 ((rd_T28 l0 x10_1).f0.f1))).setCell ⟨gb113, 2, none⟩ (.int .i64 ((rd_T28 l0 x10_1).f0.f2))).setCell ⟨gb113, 3, none⟩ (.int .i64 ((rd_T28 l0 x10_1).f1.f0))).setCell ⟨gb113, 4, none⟩ (.int .i64 ((rd_T28 l0 x10_1).f1.f1))).setCell ⟨gb113, 5, none⟩ (.int .i64 ((rd_T28 l0 x10_1).f2))).setCell ⟨gb113, 6, none⟩ (.int .i64 ((rd_T28 l0 x10_1).f3)))) ?hg ?ho ?hn ?hr ?_; (case ho => rfl); (case hg => rfl); (case hn => rfl); (case hr => first | (go_simp; done) | (go_simp; rfl)); intro w28 hw; have n0_ : Aside0 (w28.heap[gb113]? = some (.cells #[.int .i64 ((rd_T28 l0 x10_1).f0.f0), .int .i64 ((rd_T28 l0 x10_1).f0.f1), .int .i64 ((rd_T28 l0 x10_1).f0.f2), .int .i64 ((rd_T28 l0 x10_1).f1.f0), .int .i64 ((rd_T28 l0 x10_1).f1.f1), .int .i64 ((rd_T28 l0 x10_1).f2), .int .i64 ((rd_T28 l0 x10_1).f3)] 28 (0, 0))) := ⟨(by rw [hw]; exact (by refine blk_put (cs := #[.int .i64 ((rd_T28 l0 x10_1).f0.f0), .int .i64 ((rd_T28 l0 x10_1).f0.f1), .int .i64 ((rd_T28 l0 x10_1).f0.f2), .int .i64 ((rd_T28 l0 x10_1).f1.f0), .int .i64 ((rd_T28 l0 x10_1).f1.f1), .int .i64 ((rd_T28 l0 x10_1).f2), .int .i64 0]) ?_ 6 _ rfl; refine blk_put (cs := #[.int .i64 ((rd_T28 l0 x10_1).f0.f0), .int .i64 ((rd_T28 l0 x10_1).f0.f1), .int .i64 ((rd_T28 l0 x10_1).f0.f2), .int .i64 ((rd_T28 l0 x10_1).f1.f0), .int .i64 ((rd_T28 l0 x10_1).f1.f1), .int .i64 0, .int .i64 0]) ?_ 5 _ rfl; refine blk_put (cs := #[.int .i64 ((rd_T28 l0 x10_1).f0.f0), .int .i64 ((rd_T28 l0 x10_1).f0.f1), .int .i64 ((rd_T28 l0 x10_1).f0.f2), .int .i64 ((rd_T28 l0 x10_1).f1.f0), .int .i64 0, .int .i64 0, .int .i64 0]) ?_ 4 _ rfl; refine blk_put (cs := #[.int .i64 ((rd_T28 l0 x10_1).f0.f0), .int .i64 ((rd_T28 l0 x10_1).f0.f1), .int .i64 ((rd_T28 l0 x10_1).f0.f2), .int .i64 0, .int .i64 0, .int .i64 0, .int .i64 0]) ?_ 3 _ rfl; refine blk_put (cs := #[.int .i64 ((rd_T28 l0 x10_1).f0.f0), .int .i64 ((rd_T28 l0 x10_1).f0.f1), .int .i64 0, .int .i64 0, .int .i64 0, .int .i64 0, .int .i64 0]) ?_ 2 _ rfl; refine blk_put (cs := #[.int .i64 ((rd_T28 l0 x10_1).f0.f0), .int .i64 0, .int .i64 0, .int .i64 0, .int .i64 0, .int .i64 0, .int .i64 0]) ?_ 1 _ rfl; refine blk_put (cs := #[.int .i64 0, .int .i64 0, .int .i64 0, .int .i64 0, .int .i64 0, .int .i64 0, .int .i64 0]) ?_ 0 _ rfl; exact zB <| BK113.out))⟩; have n1_ : Aside0 (Below w.heap.size w w28) := ⟨(by rw [hw]; exact (by repeat (first | (with_reducible first | exact HB.out | apply ba | apply bd | apply be | refine below_set ?_ GE113.out) | exact HB.out)))⟩; clear hw BK113 HB; have BK113 := n0_; have HB := n1_; clear n0_ n1_))
        have n0_ := am (blk_drew BK113.out)
        have n1_ := am (below_drew1 HB.out)
        clear BK113 HB
        have BK113 := n0_
        have HB := n1_
        clear n0_ n1_
        refine start_ (n := 12) (S := fun w' => w'.cell? ⟨gb113, 0, none⟩ = some (.int .i64 ((rd_T28 l0 x10_1).f0.f0)) ∧ w'.cell? ⟨gb113, 1, none⟩ = some (.int .i64 ((rd_T28 l0 x10_1).f0.f1)) ∧ w'.cell? ⟨gb113, 2, none⟩ = some (.int .i64 ((rd_T28 l0 x10_1).f0.f2)) ∧ w'.cell? ⟨gb113, 3, none⟩ = some (.int .i64 ((rd_T28 l0 x10_1).f1.f0)) ∧ w'.cell? ⟨gb113, 4, none⟩ = some (.int .i64 ((rd_T28 l0 x10_1).f1.f1)) ∧ w'.cell? ⟨gb113, 5, none⟩ = some (.int .i64 ((rd_T28 l0 x10_1).f2)) ∧ w'.cell? ⟨gb113, 6, none⟩ = some (.int .i64 ((rd_T28 l0 x10_1).f3))) (ds := []) #[false, false, false, false, false, false, false, false, false, false, false, false] (by kernel_rfl) rfl rfl ⟨(blk_cell BK113.out 0).trans rfl, (blk_cell BK113.out 1).trans rfl, (blk_cell BK113.out 2).trans rfl, (blk_cell BK113.out 3).trans rfl, (blk_cell BK113.out 4).trans rfl, (blk_cell BK113.out 5).trans rfl, (blk_cell BK113.out 6).trans rfl⟩ (fun hHeld => ?_); refine with_tabW line_Valid.tab6 line_Valid.bits6 (fun HT_ HW_ => ?_)
        generalize w28.drew = w29 at BK113 HB hHeld ⊢
        refine take_ (i := 0) (N := some 15) (v := ?_) (a' := ?_) #[true, false, false, false, false, false, false, false, false, false, false, false] rfl rfl (take_ofW HT_.out HW_.out (by kernel_rfl)) (fun _ _ _ h => h) (Or.inl ⟨by rfl, ?_⟩) hHeld ?_ ?_
        rotate_left
        ·rintro w' ⟨s0, s1, s2, s3, s4, s5, s6⟩
         go_simp
         with_reducible rfl
        rotate_left
        ·simp only [Act.put, List.setIfInBounds_toArray, List.set_cons_zero, List.set_cons_succ, i64_w, i32_w]
         rfl
        refine one_ (i := 1) (N := some 16) #[true, true, false, false, false, false, false, false, false, false, false, false] rfl rfl (one_of HT_.out (by kernel_rfl)) (by decide) (fun K hK => ?_)
        refine goes_ Try.func11 (by kernel_rfl) rfl #[.agg #[.int .i64 ((rd_T28 l0 x10_1).f0.f0), .int .i64 ((rd_T28 l0 x10_1).f0.f1), .int .i64 ((rd_T28 l0 x10_1).f0.f2), .int .i64 ((rd_T28 l0 x10_1).f1.f0), .int .i64 ((rd_T28 l0 x10_1).f1.f1), .int .i64 ((rd_T28 l0 x10_1).f2), .int .i64 ((rd_T28 l0 x10_1).f3)]] (by rfl) rfl rfl (by (try simp only [List.map_toArray, List.map_cons, List.map_nil]); first | done | rfl | (simp only [List.length_drop, List.length_take]; rfl)) ?_
        with_reducible refine (line_ValidWait.calls ((rd_T28 l0 x10_1).f0.f0) ((rd_T28 l0 x10_1).f0.f1) ((rd_T28 l0 x10_1).f0.f2) ((rd_T28 l0 x10_1).f1.f0) ((rd_T28 l0 x10_1).f1.f1) ((rd_T28 l0 x10_1).f2) ((rd_T28 l0 x10_1).f3) false _ A6.out).mono ?_
        rintro e w30 ⟨rfl, hb⟩
        refine ⟨_, rfl, ?_⟩
        have n0_ := am (blk_below (zB BK113.out) hb)
        have n1_ := am (below_step (zL HB.out) hb)
        clear BK113 HB
        have BK113 := n0_
        have HB := n1_
        clear n0_ n1_
        (try clear hb)
        (try clear hb2)
        (try clear hk)
        (try clear hi)
        refine hK.out _ _ ⟨(blk_cell BK113.out 0).trans rfl, (blk_cell BK113.out 1).trans rfl, (blk_cell BK113.out 2).trans rfl, (blk_cell BK113.out 3).trans rfl, (blk_cell BK113.out 4).trans rfl, (blk_cell BK113.out 5).trans rfl, (blk_cell BK113.out 6).trans rfl⟩ (fun hHeld => ?_)
        clear hK K
        refine norm_ (a' := ?_) ?_ ?_
        rotate_left
        ·show Act.put _ (some 16) _ = _
         simp only [Act.put, List.setIfInBounds_toArray, List.set_cons_zero, List.set_cons_succ, i64_w, i32_w]
         rfl
        refine pure_ (i := 2) (N := some 17) (v := ?_) (a' := ?_) #[true, true, true, false, false, false, false, false, false, false, false, false] rfl rfl (any_of HT_.out (by kernel_rfl)) (fun _ _ _ h => h) (Or.inl ⟨by rfl, ?_⟩) ?_ ?_
        rotate_left
        ·intro w'
         go_simp
         with_reducible rfl
        rotate_left
        ·simp only [Act.put, List.setIfInBounds_toArray, List.set_cons_zero, List.set_cons_succ, i64_w, i32_w]
         rfl
        refine pure_ (i := 3) (N := some 18) (v := ?_) (a' := ?_) #[true, true, true, true, false, false, false, false, false, false, false, false] rfl rfl (any_of HT_.out (by kernel_rfl)) (fun _ _ _ h => h) (Or.inl ⟨by rfl, ?_⟩) ?_ ?_
        rotate_left
        ·intro w'
         go_simp
         with_reducible rfl
        rotate_left
        ·simp only [Act.put, List.setIfInBounds_toArray, List.set_cons_zero, List.set_cons_succ, i64_w, i32_w]
         rfl
        refine pure_ (i := 4) (N := some 19) (v := undef) (a' := ?_) #[true, true, true, true, true, false, false, false, false, false, false, false] rfl rfl (any_of HT_.out (by kernel_rfl)) (fun _ _ _ h => h) (Or.inr ⟨by rfl, rfl⟩) ?_ ?_
        rotate_left
        ·simp only [Act.put, List.setIfInBounds_toArray, List.set_cons_zero, List.set_cons_succ, i64_w, i32_w]
         rfl
        refine pure_ (i := 5) (N := some 20) (v := undef) (a' := ?_) #[true, true, true, true, true, true, false, false, false, false, false, false] rfl rfl (any_of HT_.out (by kernel_rfl)) (fun _ _ _ h => h) (Or.inr ⟨by rfl, rfl⟩) ?_ ?_
        rotate_left
        ·simp only [Act.put, List.setIfInBounds_toArray, List.set_cons_zero, List.set_cons_succ, i64_w, i32_w]
         rfl
        refine pure_ (i := 6) (N := some 21) (v := undef) (a' := ?_) #[true, true, true, true, true, true, true, false, false, false, false, false] rfl rfl (any_of HT_.out (by kernel_rfl)) (fun _ _ _ h => h) (Or.inr ⟨by rfl, rfl⟩) ?_ ?_
        rotate_left
        ·simp only [Act.put, List.setIfInBounds_toArray, List.set_cons_zero, List.set_cons_succ, i64_w, i32_w]
         rfl
        refine pure_ (i := 7) (N := some 22) (v := undef) (a' := ?_) #[true, true, true, true, true, true, true, true, false, false, false, false] rfl rfl (any_of HT_.out (by kernel_rfl)) (fun _ _ _ h => h) (Or.inr ⟨by rfl, rfl⟩) ?_ ?_
        rotate_left
        ·simp only [Act.put, List.setIfInBounds_toArray, List.set_cons_zero, List.set_cons_succ, i64_w, i32_w]
         rfl
        refine pure_ (i := 8) (N := some 23) (v := undef) (a' := ?_) #[true, true, true, true, true, true, true, true, true, false, false, false] rfl rfl (any_of HT_.out (by kernel_rfl)) (fun _ _ _ h => h) (Or.inr ⟨by rfl, rfl⟩) ?_ ?_
        rotate_left
        ·simp only [Act.put, List.setIfInBounds_toArray, List.set_cons_zero, List.set_cons_succ, i64_w, i32_w]
         rfl
        refine pure_ (i := 9) (N := some 24) (v := undef) (a' := ?_) #[true, true, true, true, true, true, true, true, true, true, false, false] rfl rfl (any_of HT_.out (by kernel_rfl)) (fun _ _ _ h => h) (Or.inr ⟨by rfl, rfl⟩) ?_ ?_
        rotate_left
        ·simp only [Act.put, List.setIfInBounds_toArray, List.set_cons_zero, List.set_cons_succ, i64_w, i32_w]
         rfl
        refine pure_ (i := 10) (N := some 25) (v := undef) (a' := ?_) #[true, true, true, true, true, true, true, true, true, true, true, false] rfl rfl (any_of HT_.out (by kernel_rfl)) (fun _ _ _ h => h) (Or.inr ⟨by rfl, rfl⟩) ?_ ?_
        rotate_left
        ·simp only [Act.put, List.setIfInBounds_toArray, List.set_cons_zero, List.set_cons_succ, i64_w, i32_w]
         rfl
        refine pure_ (i := 11) (N := some 26) (v := ?_) (a' := ?_) #[true, true, true, true, true, true, true, true, true, true, true, true] rfl rfl (any_of HT_.out (by kernel_rfl)) (fun _ _ _ h => h) (Or.inl ⟨by rfl, ?_⟩) ?_ ?_
        rotate_left
        ·intro w'
         go_simp
         with_reducible rfl
        rotate_left
        ·simp only [Act.put, List.setIfInBounds_toArray, List.set_cons_zero, List.set_cons_succ, i64_w, i32_w]
         rfl
        refine done_ (done_of HT_.out (by kernel_rfl)) ?_
        try go_wp2
        go_ret
        exact ⟨by first | rfl | (simp [errW_none, errW_some] <;> rfl) | (simp [*, errW_none, errW_some] <;> rfl), by repeat (first | (with_reducible first | exact HB.out | apply ba | apply bd | apply be | refine below_set ?_ GE113.out) | exact HB.out)⟩
      ·rw [if_neg c5] at H
       exact absurd H (by simp)
     ·rw [if_neg c4] at H
      exact absurd H (by simp)
    ·rw [if_neg c3] at H
     have c3b0 : decide (x10_1 < (l0.length : Int)) = false := decide_eq_false c3
     clear c3
     obtain rfl := Option.some.inj H
     go_wp2
     go_ret
     exact ⟨by first | rfl | (simp [errW_none, errW_some] <;> rfl) | (simp [*, errW_none, errW_some] <;> rfl), zL HB.out⟩

/-! ### api_Wait_35: function 35 -/
def api_Wait_35.f (l0 : List S28) : Option (List S28) := if l0.length < 2513169434916 then (some l0) else (none)
set_option maxHeartbeats 8000000 in
theorem api_Wait_35.calls (A0 : Option Addr) (c0 : Nat) (l0 : List S28) (r : List S28) (w : World) (hr0 : Kd.C k28 w A0 l0.length l0) (hc0 : l0.length ≤ c0) (h : api_Wait_35.f l0 = some r) :
  Calls Try.prog 35 #[.slice A0 l0.length c0] w fun e w' => ∃ v0_ : Value, e = .returned (v0_) ∧ Kd.R k28 28 w' w.heap.size (fun _ => True) v0_ r ∧ Below w.heap.size w w' := by
 unfold api_Wait_35.f at h
 by_cases h1 : l0.length < 2513169434916
 ·rw [if_pos h1] at h
  injection h with h
  subst h
  have HR0 := Aside0.mk hr0
  have HL := Aside0.mk h1
  clear hr0 h1
  have q22 := fun (w : World) (a : Option Addr) (n c : Nat) => Go.run_eql_slice_nil (P := Try.prog) w 22 28 a n c Try.underlying22
  cases A0 with
  | none =>
   have hn : l0 = [] := by
    rcases HR0.out with ⟨_, _, h3⟩
    cases l0 with
    | nil => rfl
    | cons a t => obtain ⟨ad, e, _⟩ := h3 (by simp); cases e
   subst hn
   go_enter Try.func35, Try.ntmps35
   go_wp2
   go_ret
   exact ⟨_, rfl, Kd.R_nil _ _ _ _ _, Below.refl _ _⟩
  | some ad =>
   go_enter Try.func35, Try.ntmps35
   go_wp2_with (first | ((with_reducible refine gate_dst (N := 5) rfl ?_); refine Kd.R_lit k28 _ 28 ?hg (N := 5) ?hd (xs := []) (inner := []) (ok := fun _ => True) (okp := fun _ => True) ?hr ?hp (fun _ hk => hk) trivial (Below.refl _ _) (Nat.le_refl _) (by simp) ?_; (case hd => rfl); (case hg => rfl); (case hr => first | (go_simp; done) | (go_simp; rfl)); (case hp => exact (Reps.none _ _)); intro v1 w1 ho hb hg_ hnew_; have HO := Aside0.mk ho; have HB := Aside0.mk hb; clear ho hb hg_ hnew_) | ((with_reducible refine gate_builtin (b := .append) (xs := #[.tmp 5, .tmp 6]) rfl ?_); at_builtin; refine Kd.R_append_rows k28 (w0 := w) w.heap.size rfl (.tmp 5) (.tmp 6) 22 28 (.agg #[(.int .i64 0), (.int .i64 0), (.int .i64 0), (.int .i64 0), (.int .i64 0), (.int .i64 0), (.int .i64 0)]) 56 rfl Try.underlying22 info28 rfl (by decide) (by omega) v1 [] l0 _ _ _ (fun _ => True) (fun _ => False) rfl rfl ?aO ?aR (fun _ _ h => h) (fun _ h => h.elim) ?aF ?aB ?aS ?aL ?_; (case aR => exact (Kd.C_below HR0.out HB.out)); (case aO => exact HO.out); (case aF => exact fun _ _ => trivial); (case aB => exact HB.out); (case aS => exact below_size HB.out); (case aL => have := HL.out; simp; omega); intro v2 w2 ho2 hb2 hg hat; rw [List.nil_append] at ho2; have HO2 := Aside0.mk ho2; have HB2 := Aside0.mk hb2; clear ho2 hb2 hg hat))
   go_ret
   exact ⟨_, rfl, HO2.out, HB2.out⟩
 ·rw [if_neg h1] at h; cases h


/-! ### line_meet: function 36 -/
def line_meet.f (a0_0 : Int) (a0_1 : Int) (a0_2 : Int) (a0_3 : Int) (a0_4 : Int) (a0_5 : Int) (a0_6 : Int) (a1_0 : Int) (a1_1 : Int) (a1_2 : Int) (a1_3 : Int) (a1_4 : Int) (a1_5 : Int) (a1_6 : Int) : Option (Int) := if a1_5 < a0_5 then (if a1_6 < 3 then (some 1) else (some 0)) else (some 0)
set_option maxHeartbeats 8000000 in
set_option maxRecDepth 100000 in
theorem line_meet.calls (a0_0 : Int) (a0_1 : Int) (a0_2 : Int) (a0_3 : Int) (a0_4 : Int) (a0_5 : Int) (a0_6 : Int) (a1_0 : Int) (a1_1 : Int) (a1_2 : Int) (a1_3 : Int) (a1_4 : Int) (a1_5 : Int) (a1_6 : Int) (r : Int) (w : World) (h : line_meet.f a0_0 a0_1 a0_2 a0_3 a0_4 a0_5 a0_6 a1_0 a1_1 a1_2 a1_3 a1_4 a1_5 a1_6 = some r) :
  Calls Try.prog 36 #[.agg #[.int .i64 a0_0, .int .i64 a0_1, .int .i64 a0_2, .int .i64 a0_3, .int .i64 a0_4, .int .i64 a0_5, .int .i64 a0_6], .agg #[.int .i64 a1_0, .int .i64 a1_1, .int .i64 a1_2, .int .i64 a1_3, .int .i64 a1_4, .int .i64 a1_5, .int .i64 a1_6]] w fun e w' => e = .returned (.int .i64 r) ∧ Below w.heap.size w w' := by
 have hu28 := Try.underlying28
 have HB := am (Below.refl w.heap.size w)
 have H : (if a1_5 < a0_5 then (if a1_6 < 3 then (some 1) else (some 0)) else (some 0)) = some r := h
 clear h
 by_cases c3 : a1_5 < a0_5
 ·rw [if_pos c3] at H
  have c3b0 : decide (a1_5 < a0_5) = true := decide_eq_true c3
  clear c3
  by_cases c4 : a1_6 < 3
  ·rw [if_pos c4] at H
   have c4b0 : decide (a1_6 < 3) = true := decide_eq_true c4
   clear c4
   obtain rfl := Option.some.inj H
   go_enter Try.func36, Try.ntmps36
   go_wp2_with (first | ((with_reducible refine gate_dst (N := 2) rfl ?_); refine box_event ?hg (N := 2) ?hd (cs := #[.int .i64 a0_0, .int .i64 a0_1, .int .i64 a0_2, .int .i64 a0_3, .int .i64 a0_4, .int .i64 a0_5, .int .i64 a0_6]) (t := 28) ?hr ?_; (case hd => rfl); (case hg => rfl); (case hr => first | (go_simp; done) | (go_simp; rfl)); intro gb120 hg w5 hbox hb; have n0_ := am (below_step (zL HB.out) hb); have n1_ := am (hbox); have n2_ := am (zS hg HB.out); have n3_ := am (zS hg HB.out); clear HB; have HB := n0_; have BK120 := n1_; have GW120 := n2_; have GE120 := n3_; clear n0_ n1_ n2_ n3_; clear hb hbox hg) | ((with_reducible refine gate_dst (N := 3) rfl ?_); refine box_event ?hg (N := 3) ?hd (cs := #[.int .i64 a1_0, .int .i64 a1_1, .int .i64 a1_2, .int .i64 a1_3, .int .i64 a1_4, .int .i64 a1_5, .int .i64 a1_6]) (t := 28) ?hr ?_; (case hd => rfl); (case hg => rfl); (case hr => first | (go_simp; done) | (go_simp; rfl)); intro gb121 hg w6 hbox hb; have n0_ := am (blk_below (zB BK120.out) hb); have n1_ := am (below_step (zL HB.out) hb); have n2_ := am (hbox); have n3_ := am (zS hg HB.out); have n4_ := am (zS hg HB.out); have n5_ := am (zN hg BK120.out); have n6_ := am (zM hg BK120.out); clear BK120 HB; have BK120 := n0_; have HB := n1_; have BK121 := n2_; have GW121 := n3_; have GE121 := n4_; have NB120_121 := n5_; have NB121_120 := n6_; clear n0_ n1_ n2_ n3_ n4_ n5_ n6_; clear hb hbox hg; have hnb7 := NB121_120.out; have hnc7 := NB120_121.out; have hcz8_0 : w6.cell? ⟨gb121, 0, none⟩ = some (.int .i64 a1_0) := (blk_cell BK121.out 0).trans rfl; have hcz8_1 : w6.cell? ⟨gb121, 1, none⟩ = some (.int .i64 a1_1) := (blk_cell BK121.out 1).trans rfl; have hcz8_2 : w6.cell? ⟨gb121, 2, none⟩ = some (.int .i64 a1_2) := (blk_cell BK121.out 2).trans rfl; have hcz8_3 : w6.cell? ⟨gb121, 3, none⟩ = some (.int .i64 a1_3) := (blk_cell BK121.out 3).trans rfl; have hcz8_4 : w6.cell? ⟨gb121, 4, none⟩ = some (.int .i64 a1_4) := (blk_cell BK121.out 4).trans rfl; have hcz8_5 : w6.cell? ⟨gb121, 5, none⟩ = some (.int .i64 a1_5) := (blk_cell BK121.out 5).trans rfl; have hcz8_6 : w6.cell? ⟨gb121, 6, none⟩ = some (.int .i64 a1_6) := (blk_cell BK121.out 6).trans rfl; have hfz8_0 := blk_frozen BK121.out 0; have hfz8_1 := blk_frozen BK121.out 1; have hfz8_2 := blk_frozen BK121.out 2; have hfz8_3 := blk_frozen BK121.out 3; have hfz8_4 := blk_frozen BK121.out 4; have hfz8_5 := blk_frozen BK121.out 5; have hfz8_6 := blk_frozen BK121.out 6; have hcz9_0 : w6.cell? ⟨gb120, 0, none⟩ = some (.int .i64 a0_0) := (blk_cell BK120.out 0).trans rfl; have hcz9_1 : w6.cell? ⟨gb120, 1, none⟩ = some (.int .i64 a0_1) := (blk_cell BK120.out 1).trans rfl; have hcz9_2 : w6.cell? ⟨gb120, 2, none⟩ = some (.int .i64 a0_2) := (blk_cell BK120.out 2).trans rfl; have hcz9_3 : w6.cell? ⟨gb120, 3, none⟩ = some (.int .i64 a0_3) := (blk_cell BK120.out 3).trans rfl; have hcz9_4 : w6.cell? ⟨gb120, 4, none⟩ = some (.int .i64 a0_4) := (blk_cell BK120.out 4).trans rfl; have hcz9_5 : w6.cell? ⟨gb120, 5, none⟩ = some (.int .i64 a0_5) := (blk_cell BK120.out 5).trans rfl; have hcz9_6 : w6.cell? ⟨gb120, 6, none⟩ = some (.int .i64 a0_6) := (blk_cell BK120.out 6).trans rfl; have hfz9_0 := blk_frozen BK120.out 0; have hfz9_1 := blk_frozen BK120.out 1; have hfz9_2 := blk_frozen BK120.out 2; have hfz9_3 := blk_frozen BK120.out 3; have hfz9_4 := blk_frozen BK120.out 4; have hfz9_5 := blk_frozen BK120.out 5; have hfz9_6 := blk_frozen BK120.out 6))
   go_ret
   exact ⟨by first | rfl | (simp [errW_none, errW_some] <;> rfl) | (simp [*, errW_none, errW_some] <;> rfl), by repeat (first | (with_reducible first | exact HB.out | apply ba | apply bd | apply be | refine below_set ?_ GE120.out | refine below_set ?_ GE121.out) | exact HB.out)⟩
  ·rw [if_neg c4] at H
   have c4b0 : decide (a1_6 < 3) = false := decide_eq_false c4
   clear c4
   obtain rfl := Option.some.inj H
   go_enter Try.func36, Try.ntmps36
   go_wp2_with (first | ((with_reducible refine gate_dst (N := 2) rfl ?_); refine box_event ?hg (N := 2) ?hd (cs := #[.int .i64 a0_0, .int .i64 a0_1, .int .i64 a0_2, .int .i64 a0_3, .int .i64 a0_4, .int .i64 a0_5, .int .i64 a0_6]) (t := 28) ?hr ?_; (case hd => rfl); (case hg => rfl); (case hr => first | (go_simp; done) | (go_simp; rfl)); intro gb120 hg w10 hbox hb; have n0_ := am (below_step (zL HB.out) hb); have n1_ := am (hbox); have n2_ := am (zS hg HB.out); have n3_ := am (zS hg HB.out); clear HB; have HB := n0_; have BK120 := n1_; have GW120 := n2_; have GE120 := n3_; clear n0_ n1_ n2_ n3_; clear hb hbox hg) | ((with_reducible refine gate_dst (N := 3) rfl ?_); refine box_event ?hg (N := 3) ?hd (cs := #[.int .i64 a1_0, .int .i64 a1_1, .int .i64 a1_2, .int .i64 a1_3, .int .i64 a1_4, .int .i64 a1_5, .int .i64 a1_6]) (t := 28) ?hr ?_; (case hd => rfl); (case hg => rfl); (case hr => first | (go_simp; done) | (go_simp; rfl)); intro gb121 hg w11 hbox hb; have n0_ := am (blk_below (zB BK120.out) hb); have n1_ := am (below_step (zL HB.out) hb); have n2_ := am (hbox); have n3_ := am (zS hg HB.out); have n4_ := am (zS hg HB.out); have n5_ := am (zN hg BK120.out); have n6_ := am (zM hg BK120.out); clear BK120 HB; have BK120 := n0_; have HB := n1_; have BK121 := n2_; have GW121 := n3_; have GE121 := n4_; have NB120_121 := n5_; have NB121_120 := n6_; clear n0_ n1_ n2_ n3_ n4_ n5_ n6_; clear hb hbox hg; have hnb12 := NB121_120.out; have hnc12 := NB120_121.out; have hcz13_0 : w11.cell? ⟨gb121, 0, none⟩ = some (.int .i64 a1_0) := (blk_cell BK121.out 0).trans rfl; have hcz13_1 : w11.cell? ⟨gb121, 1, none⟩ = some (.int .i64 a1_1) := (blk_cell BK121.out 1).trans rfl; have hcz13_2 : w11.cell? ⟨gb121, 2, none⟩ = some (.int .i64 a1_2) := (blk_cell BK121.out 2).trans rfl; have hcz13_3 : w11.cell? ⟨gb121, 3, none⟩ = some (.int .i64 a1_3) := (blk_cell BK121.out 3).trans rfl; have hcz13_4 : w11.cell? ⟨gb121, 4, none⟩ = some (.int .i64 a1_4) := (blk_cell BK121.out 4).trans rfl; have hcz13_5 : w11.cell? ⟨gb121, 5, none⟩ = some (.int .i64 a1_5) := (blk_cell BK121.out 5).trans rfl; have hcz13_6 : w11.cell? ⟨gb121, 6, none⟩ = some (.int .i64 a1_6) := (blk_cell BK121.out 6).trans rfl; have hfz13_0 := blk_frozen BK121.out 0; have hfz13_1 := blk_frozen BK121.out 1; have hfz13_2 := blk_frozen BK121.out 2; have hfz13_3 := blk_frozen BK121.out 3; have hfz13_4 := blk_frozen BK121.out 4; have hfz13_5 := blk_frozen BK121.out 5; have hfz13_6 := blk_frozen BK121.out 6; have hcz14_0 : w11.cell? ⟨gb120, 0, none⟩ = some (.int .i64 a0_0) := (blk_cell BK120.out 0).trans rfl; have hcz14_1 : w11.cell? ⟨gb120, 1, none⟩ = some (.int .i64 a0_1) := (blk_cell BK120.out 1).trans rfl; have hcz14_2 : w11.cell? ⟨gb120, 2, none⟩ = some (.int .i64 a0_2) := (blk_cell BK120.out 2).trans rfl; have hcz14_3 : w11.cell? ⟨gb120, 3, none⟩ = some (.int .i64 a0_3) := (blk_cell BK120.out 3).trans rfl; have hcz14_4 : w11.cell? ⟨gb120, 4, none⟩ = some (.int .i64 a0_4) := (blk_cell BK120.out 4).trans rfl; have hcz14_5 : w11.cell? ⟨gb120, 5, none⟩ = some (.int .i64 a0_5) := (blk_cell BK120.out 5).trans rfl; have hcz14_6 : w11.cell? ⟨gb120, 6, none⟩ = some (.int .i64 a0_6) := (blk_cell BK120.out 6).trans rfl; have hfz14_0 := blk_frozen BK120.out 0; have hfz14_1 := blk_frozen BK120.out 1; have hfz14_2 := blk_frozen BK120.out 2; have hfz14_3 := blk_frozen BK120.out 3; have hfz14_4 := blk_frozen BK120.out 4; have hfz14_5 := blk_frozen BK120.out 5; have hfz14_6 := blk_frozen BK120.out 6))
   go_ret
   exact ⟨by first | rfl | (simp [errW_none, errW_some] <;> rfl) | (simp [*, errW_none, errW_some] <;> rfl), by repeat (first | (with_reducible first | exact HB.out | apply ba | apply bd | apply be | refine below_set ?_ GE120.out | refine below_set ?_ GE121.out) | exact HB.out)⟩
 ·rw [if_neg c3] at H
  have c3b0 : decide (a1_5 < a0_5) = false := decide_eq_false c3
  clear c3
  obtain rfl := Option.some.inj H
  go_enter Try.func36, Try.ntmps36
  go_wp2_with (first | ((with_reducible refine gate_dst (N := 2) rfl ?_); refine box_event ?hg (N := 2) ?hd (cs := #[.int .i64 a0_0, .int .i64 a0_1, .int .i64 a0_2, .int .i64 a0_3, .int .i64 a0_4, .int .i64 a0_5, .int .i64 a0_6]) (t := 28) ?hr ?_; (case hd => rfl); (case hg => rfl); (case hr => first | (go_simp; done) | (go_simp; rfl)); intro gb120 hg w15 hbox hb; have n0_ := am (below_step (zL HB.out) hb); have n1_ := am (hbox); have n2_ := am (zS hg HB.out); have n3_ := am (zS hg HB.out); clear HB; have HB := n0_; have BK120 := n1_; have GW120 := n2_; have GE120 := n3_; clear n0_ n1_ n2_ n3_; clear hb hbox hg) | ((with_reducible refine gate_dst (N := 3) rfl ?_); refine box_event ?hg (N := 3) ?hd (cs := #[.int .i64 a1_0, .int .i64 a1_1, .int .i64 a1_2, .int .i64 a1_3, .int .i64 a1_4, .int .i64 a1_5, .int .i64 a1_6]) (t := 28) ?hr ?_; (case hd => rfl); (case hg => rfl); (case hr => first | (go_simp; done) | (go_simp; rfl)); intro gb121 hg w16 hbox hb; have n0_ := am (blk_below (zB BK120.out) hb); have n1_ := am (below_step (zL HB.out) hb); have n2_ := am (hbox); have n3_ := am (zS hg HB.out); have n4_ := am (zS hg HB.out); have n5_ := am (zN hg BK120.out); have n6_ := am (zM hg BK120.out); clear BK120 HB; have BK120 := n0_; have HB := n1_; have BK121 := n2_; have GW121 := n3_; have GE121 := n4_; have NB120_121 := n5_; have NB121_120 := n6_; clear n0_ n1_ n2_ n3_ n4_ n5_ n6_; clear hb hbox hg; have hnb17 := NB121_120.out; have hnc17 := NB120_121.out; have hcz18_0 : w16.cell? ⟨gb121, 0, none⟩ = some (.int .i64 a1_0) := (blk_cell BK121.out 0).trans rfl; have hcz18_1 : w16.cell? ⟨gb121, 1, none⟩ = some (.int .i64 a1_1) := (blk_cell BK121.out 1).trans rfl; have hcz18_2 : w16.cell? ⟨gb121, 2, none⟩ = some (.int .i64 a1_2) := (blk_cell BK121.out 2).trans rfl; have hcz18_3 : w16.cell? ⟨gb121, 3, none⟩ = some (.int .i64 a1_3) := (blk_cell BK121.out 3).trans rfl; have hcz18_4 : w16.cell? ⟨gb121, 4, none⟩ = some (.int .i64 a1_4) := (blk_cell BK121.out 4).trans rfl; have hcz18_5 : w16.cell? ⟨gb121, 5, none⟩ = some (.int .i64 a1_5) := (blk_cell BK121.out 5).trans rfl; have hcz18_6 : w16.cell? ⟨gb121, 6, none⟩ = some (.int .i64 a1_6) := (blk_cell BK121.out 6).trans rfl; have hfz18_0 := blk_frozen BK121.out 0; have hfz18_1 := blk_frozen BK121.out 1; have hfz18_2 := blk_frozen BK121.out 2; have hfz18_3 := blk_frozen BK121.out 3; have hfz18_4 := blk_frozen BK121.out 4; have hfz18_5 := blk_frozen BK121.out 5; have hfz18_6 := blk_frozen BK121.out 6; have hcz19_0 : w16.cell? ⟨gb120, 0, none⟩ = some (.int .i64 a0_0) := (blk_cell BK120.out 0).trans rfl; have hcz19_1 : w16.cell? ⟨gb120, 1, none⟩ = some (.int .i64 a0_1) := (blk_cell BK120.out 1).trans rfl; have hcz19_2 : w16.cell? ⟨gb120, 2, none⟩ = some (.int .i64 a0_2) := (blk_cell BK120.out 2).trans rfl; have hcz19_3 : w16.cell? ⟨gb120, 3, none⟩ = some (.int .i64 a0_3) := (blk_cell BK120.out 3).trans rfl; have hcz19_4 : w16.cell? ⟨gb120, 4, none⟩ = some (.int .i64 a0_4) := (blk_cell BK120.out 4).trans rfl; have hcz19_5 : w16.cell? ⟨gb120, 5, none⟩ = some (.int .i64 a0_5) := (blk_cell BK120.out 5).trans rfl; have hcz19_6 : w16.cell? ⟨gb120, 6, none⟩ = some (.int .i64 a0_6) := (blk_cell BK120.out 6).trans rfl; have hfz19_0 := blk_frozen BK120.out 0; have hfz19_1 := blk_frozen BK120.out 1; have hfz19_2 := blk_frozen BK120.out 2; have hfz19_3 := blk_frozen BK120.out 3; have hfz19_4 := blk_frozen BK120.out 4; have hfz19_5 := blk_frozen BK120.out 5; have hfz19_6 := blk_frozen BK120.out 6))
  go_ret
  exact ⟨by first | rfl | (simp [errW_none, errW_some] <;> rfl) | (simp [*, errW_none, errW_some] <;> rfl), by repeat (first | (with_reducible first | exact HB.out | apply ba | apply bd | apply be | refine below_set ?_ GE120.out | refine below_set ?_ GE121.out) | exact HB.out)⟩

end Go.Proofs.Ytgomhoolipfkmaa.Y

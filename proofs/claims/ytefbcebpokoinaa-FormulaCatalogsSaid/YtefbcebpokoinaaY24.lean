-- Laid by a program of this session's (xprint.py, which runs the kit's print.py with patches of its own). Lean checks it.
import Derived.Laws.Cover1
import Derived.Test.YtefbcebpokoinaaY0
import Derived.Test.YtefbcebpokoinaaY23
namespace Go.Proofs.Ytefbcebpokoinaa.Y
open Go.RowKit Go.Proofs.YtefbcebpokoinaaW.PrintWords Go.Proofs.YtefbcebpokoinaaW.PrintLast Go.Proofs.YtefbcebpokoinaaW.PrintMore
attribute [local go_sem] max2_int min2_int max_two min_two max_three min_three max_four min_four   -- for this text's walks alone
set_option linter.unusedVariables false
set_option linter.unusedSimpArgs false

/-! ### catalog_Valid: function 48 -/
def catalog_Valid.l0 : Nat → List (S59) → List (S59) → Int → Int → Option (Bool)
 | 0, _, _, _, _ => none
 | k + 1, x0, x8, x9, x10 => if x10 < x9 then (if 0 ≤ x10 then (if x10 < (x8.length : Int) then ((catalog_ValidResource.f k ((rd_T59 x8 x10).f0) ((rd_T59 x8 x10).f1) ((rd_T59 x8 x10).f2) ((rd_T59 x8 x10).f3)).bind fun t524 => (if t524 = true then (if x10 > 0 then (if 0 ≤ (wrap64 (x10 - 1)) then (if (wrap64 (x10 - 1)) < (x0.length : Int) then (if ((Op.bytesLess (((rd_T59 x0 (wrap64 (x10 - 1))).f0).toList) (((rd_T59 x8 x10).f0).toList)) = true) then (catalog_Valid.l0 k x0 x8 x9 (wrap64 (x10 + 1))) else (some false)) else (none)) else (none)) else (catalog_Valid.l0 k x0 x8 x9 (wrap64 (x10 + 1)))) else (some false))) else (none)) else (none)) else (some true)
def catalog_Valid.f (k : Nat) (l0 : List (S59)) : Option (Bool) := if (l0.length : Int) > 8 then (some false) else (catalog_Valid.l0 k l0 l0 (l0.length : Int) 0)
theorem catalog_Valid.mono_l : ∀ k, (∀ y0 y1 y2 y3, LeO (catalog_Valid.l0 k y0 y1 y2 y3) (catalog_Valid.l0 (k + 1) y0 y1 y2 y3))
 | 0 => fun _ _ _ _ r h => by simp [catalog_Valid.l0] at h
 | k + 1 => by
  have ih0 := catalog_Valid.mono_l k
  ·intro y0 y1 y2 y3
   unfold catalog_Valid.l0
   repeat' first
   | (with_reducible exact ih0 _ _ _ _)
   | (with_reducible exact catalog_ValidResource.mono _ _ _ _ _)
   | (with_reducible exact LeO.refl _)
   | (with_reducible exact LeO.none _)
   | (with_reducible refine LeO.ite ?_ ?_)
   | (with_reducible refine LeO.bind ?_ (fun _ => ?_))
   | exact ih0 _ _ _ _
   | exact catalog_ValidResource.mono _ _ _ _ _
   | exact LeO.none _
   | refine LeO.ite ?_ ?_
   | refine LeO.bind ?_ (fun _ => ?_)
theorem catalog_Valid.mono : ∀ a0 k, LeO (catalog_Valid.f k a0) (catalog_Valid.f (k + 1) a0) := by
 intro a0 k
 have ih0 := catalog_Valid.mono_l k
 unfold catalog_Valid.f
 repeat' first
   | (with_reducible exact ih0 _ _ _ _)
   | (with_reducible exact catalog_ValidResource.mono _ _ _ _ _)
   | (with_reducible exact LeO.refl _)
   | (with_reducible exact LeO.none _)
   | (with_reducible refine LeO.ite ?_ ?_)
   | (with_reducible refine LeO.bind ?_ (fun _ => ?_))
   | exact ih0 _ _ _ _
   | exact catalog_ValidResource.mono _ _ _ _ _
   | exact LeO.none _
   | refine LeO.ite ?_ ?_
   | refine LeO.bind ?_ (fun _ => ?_)
def catalog_Valid.T6 : Bool × List (List Nat × List Nat) := (true, [([], []), ([0], [0]), ([1], [1]), ([2, 1], [2]), ([3], [3]), ([4, 3], [3, 4]), ([5, 3, 3], [3, 5]), ([6], [6]), ([6], [6]), ([8, 6], [6, 8]), ([7, 9, 6], [6, 7, 9]), ([10, 6], [6, 10]), ([11, 6], [6, 11]), ([6], [6]), ([13, 6], [6, 13]), ([12, 14, 6], [6, 12, 14]), ([6, 15, 3], [3, 6, 15]), ([3, 16], [3, 16])])
def catalog_Valid.B6 : List Nat := [0, 1, 3, 7, 15, 31, 63, 127, 127, 383, 1023, 2047, 4095, 127, 8319, 32767, 65535, 131071]
theorem catalog_Valid.tab6 : rtab .any (opsOf Try.f48 6) = catalog_Valid.T6 := by kernel_rfl
theorem catalog_Valid.bits6 : waitsOk catalog_Valid.T6.2 catalog_Valid.B6 = true := by kernel_rfl
set_option maxHeartbeats 8000000 in
set_option maxRecDepth 100000 in
theorem catalog_Valid.calls (k : Nat) (A0 : Option Addr) (c0 : Nat) (l0 : List (S59)) (r : Bool) (w : World) (hr0 : Kd.C k59 w A0 l0.length l0) (hc0 : l0.length ≤ c0) (h : catalog_Valid.f k l0 = some r) :
  Calls Try.prog 48 #[.slice A0 l0.length c0] w fun e w' => e = .returned (.bool r) ∧ Below w.heap.size w w' := by
 have hu59 := Try.underlying59
 have HR0 := Aside0.mk hr0
 have HC0 := Aside0.mk hc0
 clear hr0 hc0
 have HB := am (Below.refl w.heap.size w)
 have H : (if (l0.length : Int) > 8 then (some false) else (catalog_Valid.l0 k l0 l0 (l0.length : Int) 0)) = some r := h
 clear h
 by_cases c2 : (l0.length : Int) > 8
 ·rw [if_pos c2] at H
  have c2b0 : decide (8 < (l0.length : Int)) = true := decide_eq_true c2
  have c2b1 : decide (8 < l0.length) = true := decide_eq_true (by omega)
  clear c2
  obtain rfl := Option.some.inj H
  go_enter Try.func48, Try.ntmps48
  go_wp2
  go_ret
  exact ⟨by first | rfl | (simp [errW_none, errW_some] <;> rfl) | (simp [*, errW_none, errW_some] <;> rfl), zL HB.out⟩
 ·rw [if_neg c2] at H
  have c2b0 : decide (8 < (l0.length : Int)) = false := decide_eq_false c2
  have c2b1 : decide (8 < l0.length) = false := decide_eq_false (by omega)
  clear c2
  have H' := Aside0.mk H
  clear H
  go_enter Try.func48, Try.ntmps48
  go_wp2
  go_loopg [10] k (fun kq v10 w' => ∃ (x10_1 : Int), v10 = .int .i64 x10_1 ∧ Aside0 (catalog_Valid.l0 kq l0 l0 (l0.length : Int) x10_1 = some r) ∧ Aside0 (kq ≤ k) ∧ Aside0 (Below w.heap.size w w'))
  case atStart => exact ⟨(0), (by first | rfl | (simp; done) | (simp [*]; done)), H', ⟨Nat.le_refl _⟩, ⟨zL HB.out⟩⟩
  case round =>
   clear H'
   try clear c2
   try clear c2b0
   try clear c2b1
   try clear p2
   obtain ⟨x10_1, rfl, HA, HK1, HB⟩ := hrel
   cases gk with
   | zero => exact absurd HA.out (by simp [catalog_Valid.l0])
   | succ k1 =>
    have H := HA.out
    clear HA
    simp only [catalog_Valid.l0] at H
    by_cases c3 : x10_1 < (l0.length : Int)
    ·rw [if_pos c3] at H
     have c3b0 : decide (x10_1 < (l0.length : Int)) = true := decide_eq_true c3
     clear c3
     by_cases c4 : 0 ≤ x10_1
     ·rw [if_pos c4] at H
      have c4b0 : decide (0 ≤ x10_1) = true := decide_eq_true c4
      clear c4
      by_cases c5 : x10_1 < (l0.length : Int)
      ·rw [if_pos c5] at H
       have c5b0 : decide (x10_1 < (l0.length : Int)) = true := decide_eq_true c5
       clear c5
       replace H := Option.bind_eq_some_iff.mp H
       obtain ⟨t524, A60, H⟩ := H
       replace H : (if t524 = true then (if x10_1 > 0 then (if 0 ≤ (wrap64 (x10_1 - 1)) then (if (wrap64 (x10_1 - 1)) < (l0.length : Int) then (if ((Op.bytesLess (((rd_T59 l0 (wrap64 (x10_1 - 1))).f0).toList) (((rd_T59 l0 x10_1).f0).toList)) = true) then (catalog_Valid.l0 k1 l0 l0 (l0.length : Int) (wrap64 (x10_1 + 1))) else (some false)) else (none)) else (none)) else (catalog_Valid.l0 k1 l0 l0 (l0.length : Int) (wrap64 (x10_1 + 1)))) else (some false)) = some r := H
       have A6 := Aside0.mk A60
       clear A60
       by_cases c7 : t524 = true
       ·subst c7
        have H1 : (if x10_1 > 0 then (if 0 ≤ (wrap64 (x10_1 - 1)) then (if (wrap64 (x10_1 - 1)) < (l0.length : Int) then (if ((Op.bytesLess (((rd_T59 l0 (wrap64 (x10_1 - 1))).f0).toList) (((rd_T59 l0 x10_1).f0).toList)) = true) then (catalog_Valid.l0 k1 l0 l0 (l0.length : Int) (wrap64 (x10_1 + 1))) else (some false)) else (none)) else (none)) else (catalog_Valid.l0 k1 l0 l0 (l0.length : Int) (wrap64 (x10_1 + 1)))) = some r := by rw [if_pos rfl] at H; exact H
        clear H
        have H := H1
        clear H1
        by_cases c8 : x10_1 > 0
        ·rw [if_pos c8] at H
         have c8b0 : decide (0 < x10_1) = true := decide_eq_true c8
         clear c8
         obtain ⟨ji9, hji9⟩ : ∃ j_ : Int, (wrap64 (x10_1 - 1)) = j_ := ⟨_, rfl⟩
         replace H : (if 0 ≤ (ji9) then (if (ji9) < (l0.length : Int) then (if ((Op.bytesLess (((rd_T59 l0 (ji9)).f0).toList) (((rd_T59 l0 x10_1).f0).toList)) = true) then (catalog_Valid.l0 k1 l0 l0 (l0.length : Int) (wrap64 (x10_1 + 1))) else (some false)) else (none)) else (none)) = some r := by first | (rw [hji9] at H; exact H) | (simp only [hji9] at H ⊢; exact H)
         (try rw [hji9] at A6)
         have hji9w : (IntKind.i64.wrap (x10_1 - 1)) = ji9 := (i64_w _).trans hji9
         by_cases c10 : 0 ≤ (ji9)
         ·rw [if_pos c10] at H
          have c10b0 : decide (0 ≤ (ji9)) = true := decide_eq_true c10
          clear c10
          by_cases c11 : (ji9) < (l0.length : Int)
          ·rw [if_pos c11] at H
           have c11b0 : decide ((ji9) < (l0.length : Int)) = true := decide_eq_true c11
           clear c11
           by_cases c12 : ((Op.bytesLess (((rd_T59 l0 (ji9)).f0).toList) (((rd_T59 l0 x10_1).f0).toList)) = true)
           ·rw [if_pos c12] at H
            have c12b0 : (Op.bytesLess (((rd_T59 l0 (ji9)).f0).toList) (((rd_T59 l0 x10_1).f0).toList)) = true := c12
            clear c12
            have H' := Aside0.mk H
            clear H
            have p522 : 0 ≤ (x10_1 : Int) := of_decide_eq_true (by first | (with_reducible assumption) | assumption)
            have q522 : x10_1 < (l0.length : Int) := of_decide_eq_true (by first | (with_reducible assumption) | assumption)
            obtain ⟨ad522, e522, hx522_0, hx522_1, hx522_2, hx522_3⟩ := at_T59 HR0.out x10_1 p522 q522
            cases e522
            replace hx522_0 := (HB.out.cell (World.block_lt_of_cell? w _ hx522_0)).trans hx522_0
            replace hx522_1 := (HB.out.cell (World.block_lt_of_cell? w _ hx522_1)).trans hx522_1
            replace hx522_2 := (HB.out.cell (World.block_lt_of_cell? w _ hx522_2)).trans hx522_2
            replace hx522_3 := (HB.out.cell (World.block_lt_of_cell? w _ hx522_3)).trans hx522_3
            replace p522 := eq_true p522
            replace q522 := eq_true q522
            try go_wp2_with (first | ((with_reducible refine gate_dst (N := 4) rfl ?_); refine box_event ?hg (N := 4) ?hd (cs := #[.string (⟨#[]⟩ : ByteArray), .int .i64 0, .int .i64 0, .int .i64 0]) (t := 59) ?hr ?_; (case hd => rfl); (case hg => rfl); (case hr => first | (go_simp; done) | (go_simp; rfl)); intro gb523 hg w13 hbox hb; have n0_ := am (below_step (zL HB.out) hb); have n1_ := am (hbox); have n2_ := am (zS hg HB.out); have n3_ := am (zS hg HB.out); clear HB; have HB := n0_; have BK523 := n1_; have GW523 := n2_; have GE523 := n3_; clear n0_ n1_ n2_ n3_; clear hb hbox hg; obtain ⟨hcz14_0, hcz14_1, hcz14_2, hcz14_3, hfz14_0, hfz14_1, hfz14_2, hfz14_3⟩ := b4 BK523.out) | ((with_reducible refine gate_store (t := 59) (p := 4) rfl ?_); refine store_event (t := 59) (p := 4) (v := ?vo_w15) (w1 := ((((w13.setCell ⟨gb523, 0, none⟩ (.string ((rd_T59 l0 x10_1).f0))).setCell ⟨gb523, 1, none⟩ (.int .i64 ((rd_T59 l0 x10_1).f1))).setCell ⟨gb523, 2, none⟩ (.int .i64 ((rd_T59 l0 x10_1).f2))).setCell ⟨gb523, 3, none⟩ (.int .i64 ((rd_T59 l0 x10_1).f3)))) ?hg ?ho ?hn ?hr ?_; (case ho => rfl); (case hg => rfl); (case hn => rfl); (case hr => first | (go_simp; done) | (go_simp; rfl)); intro w15 hw; have n0_ : Aside0 (w15.heap[gb523]? = some (.cells #[.string ((rd_T59 l0 x10_1).f0), .int .i64 ((rd_T59 l0 x10_1).f1), .int .i64 ((rd_T59 l0 x10_1).f2), .int .i64 ((rd_T59 l0 x10_1).f3)] 59 (0, 0))) := ⟨(by rw [hw]; exact (by refine blk_put (cs := #[.string ((rd_T59 l0 x10_1).f0), .int .i64 ((rd_T59 l0 x10_1).f1), .int .i64 ((rd_T59 l0 x10_1).f2), .int .i64 0]) ?_ 3 _ rfl; refine blk_put (cs := #[.string ((rd_T59 l0 x10_1).f0), .int .i64 ((rd_T59 l0 x10_1).f1), .int .i64 0, .int .i64 0]) ?_ 2 _ rfl; refine blk_put (cs := #[.string ((rd_T59 l0 x10_1).f0), .int .i64 0, .int .i64 0, .int .i64 0]) ?_ 1 _ rfl; refine blk_put (cs := #[.string (⟨#[]⟩ : ByteArray), .int .i64 0, .int .i64 0, .int .i64 0]) ?_ 0 _ rfl; exact zB <| BK523.out))⟩; have n1_ : Aside0 (Below w.heap.size w w15) := ⟨(by rw [hw]; exact (by repeat (first | (with_reducible first | exact HB.out | apply ba | apply bd | apply be | refine below_set ?_ GE523.out) | exact HB.out)))⟩; clear hw BK523 HB; have BK523 := n0_; have HB := n1_; clear n0_ n1_))
            have n0_ := am (blk_drew BK523.out)
            have n1_ := am (below_drew1 HB.out)
            clear BK523 HB
            have BK523 := n0_
            have HB := n1_
            clear n0_ n1_
            have p525 : 0 ≤ ((ji9) : Int) := of_decide_eq_true (by first | (with_reducible assumption) | assumption)
            have q525 : (ji9) < (l0.length : Int) := of_decide_eq_true (by first | (with_reducible assumption) | assumption)
            obtain ⟨ad525, e525, hx525_0, hx525_1, hx525_2, hx525_3⟩ := at_T59 HR0.out (ji9) p525 q525
            have hw525_3 := hx525_3
            have hw525_2 := hx525_2
            have hw525_1 := hx525_1
            have hw525_0 := hx525_0
            obtain rfl : ad522 = ad525 := (by injection e525)
            replace hx525_0 := (HB.out.cell (World.block_lt_of_cell? w _ hx525_0)).trans hx525_0
            replace hx525_1 := (HB.out.cell (World.block_lt_of_cell? w _ hx525_1)).trans hx525_1
            replace hx525_2 := (HB.out.cell (World.block_lt_of_cell? w _ hx525_2)).trans hx525_2
            replace hx525_3 := (HB.out.cell (World.block_lt_of_cell? w _ hx525_3)).trans hx525_3
            replace p525 := eq_true p525
            replace q525 := eq_true q525
            refine start_ (n := 18) (S := fun w' => w'.cell? ⟨gb523, 0, none⟩ = some (.string ((rd_T59 l0 x10_1).f0)) ∧ w'.cell? ⟨gb523, 1, none⟩ = some (.int .i64 ((rd_T59 l0 x10_1).f1)) ∧ w'.cell? ⟨gb523, 2, none⟩ = some (.int .i64 ((rd_T59 l0 x10_1).f2)) ∧ w'.cell? ⟨gb523, 3, none⟩ = some (.int .i64 ((rd_T59 l0 x10_1).f3)) ∧ w'.cell? (ad522.add (((ji9)).toNat * 4)) = some (.string ((rd_T59 l0 (ji9)).f0)) ∧ w'.cell? ⟨(ad522.add (((ji9)).toNat * 4)).block, (ad522.add (((ji9)).toNat * 4)).off + 1, none⟩ = some (.int .i64 ((rd_T59 l0 (ji9)).f1)) ∧ w'.cell? ⟨(ad522.add (((ji9)).toNat * 4)).block, (ad522.add (((ji9)).toNat * 4)).off + 2, none⟩ = some (.int .i64 ((rd_T59 l0 (ji9)).f2)) ∧ w'.cell? ⟨(ad522.add (((ji9)).toNat * 4)).block, (ad522.add (((ji9)).toNat * 4)).off + 3, none⟩ = some (.int .i64 ((rd_T59 l0 (ji9)).f3))) (ds := []) #[false, false, false, false, false, false, false, false, false, false, false, false, false, false, false, false, false, false] (by kernel_rfl) rfl rfl ⟨(blk_cell BK523.out 0).trans rfl, (blk_cell BK523.out 1).trans rfl, (blk_cell BK523.out 2).trans rfl, (blk_cell BK523.out 3).trans rfl, ((HB.out.cell (World.block_lt_of_cell? w _ hw525_0)).trans hw525_0), ((HB.out.cell (World.block_lt_of_cell? w _ hw525_1)).trans hw525_1), ((HB.out.cell (World.block_lt_of_cell? w _ hw525_2)).trans hw525_2), ((HB.out.cell (World.block_lt_of_cell? w _ hw525_3)).trans hw525_3)⟩ (fun hHeld => ?_); refine with_tabW catalog_Valid.tab6 catalog_Valid.bits6 (fun HT_ HW_ => ?_)
            generalize w15.drew = w16 at BK523 HB hx525_0 hx525_1 hx525_2 hx525_3 hHeld ⊢
            refine take_ (i := 0) (N := some 15) (v := ?_) (a' := ?_) #[true, false, false, false, false, false, false, false, false, false, false, false, false, false, false, false, false, false] rfl rfl (take_ofW HT_.out HW_.out (by kernel_rfl)) (fun _ _ _ h => h) (Or.inl ⟨by rfl, ?_⟩) hHeld ?_ ?_
            rotate_left
            ·rintro w' ⟨s0, s1, s2, s3, s4, s5, s6, s7⟩
             go_simp
             with_reducible rfl
            rotate_left
            ·simp only [Act.put, List.setIfInBounds_toArray, List.set_cons_zero, List.set_cons_succ, i64_w, i32_w]
             rfl
            refine one_ (i := 1) (N := some 16) #[true, true, false, false, false, false, false, false, false, false, false, false, false, false, false, false, false, false] rfl rfl (one_of HT_.out (by kernel_rfl)) (by decide) (fun K hK => ?_)
            refine goes_ Try.func60 (by kernel_rfl) rfl #[.agg #[.string ((rd_T59 l0 x10_1).f0), .int .i64 ((rd_T59 l0 x10_1).f1), .int .i64 ((rd_T59 l0 x10_1).f2), .int .i64 ((rd_T59 l0 x10_1).f3)]] (by rfl) rfl rfl (by (try simp only [List.map_toArray, List.map_cons, List.map_nil]); first | done | rfl | (simp only [List.length_drop, List.length_take]; rfl)) ?_
            with_reducible refine (catalog_ValidResource.calls k1 ((rd_T59 l0 x10_1).f0) ((rd_T59 l0 x10_1).f1) ((rd_T59 l0 x10_1).f2) ((rd_T59 l0 x10_1).f3) true _ A6.out).mono ?_
            rintro e w17 ⟨rfl, hb⟩
            refine ⟨_, rfl, ?_⟩
            have n0_ := am (blk_below (zB BK523.out) hb)
            have n1_ := am (below_step (zL HB.out) hb)
            clear BK523 HB
            have BK523 := n0_
            have HB := n1_
            clear n0_ n1_
            (try clear hb)
            (try clear hb2)
            (try clear hk)
            (try clear hi)
            refine hK.out _ _ ⟨(blk_cell BK523.out 0).trans rfl, (blk_cell BK523.out 1).trans rfl, (blk_cell BK523.out 2).trans rfl, (blk_cell BK523.out 3).trans rfl, ((HB.out.cell (World.block_lt_of_cell? w _ hw525_0)).trans hw525_0), ((HB.out.cell (World.block_lt_of_cell? w _ hw525_1)).trans hw525_1), ((HB.out.cell (World.block_lt_of_cell? w _ hw525_2)).trans hw525_2), ((HB.out.cell (World.block_lt_of_cell? w _ hw525_3)).trans hw525_3)⟩ (fun hHeld => ?_)
            clear hK K
            refine norm_ (a' := ?_) ?_ ?_
            rotate_left
            ·show Act.put _ (some 16) _ = _
             simp only [Act.put, List.setIfInBounds_toArray, List.set_cons_zero, List.set_cons_succ, i64_w, i32_w]
             rfl
            refine pure_ (i := 2) (N := some 17) (v := ?_) (a' := ?_) #[true, true, true, false, false, false, false, false, false, false, false, false, false, false, false, false, false, false] rfl rfl (any_of HT_.out (by kernel_rfl)) (fun _ _ _ h => h) (Or.inl ⟨by rfl, ?_⟩) ?_ ?_
            rotate_left
            ·intro w'
             go_simp
             with_reducible rfl
            rotate_left
            ·simp only [Act.put, List.setIfInBounds_toArray, List.set_cons_zero, List.set_cons_succ, i64_w, i32_w]
             rfl
            refine pure_ (i := 3) (N := some 18) (v := ?_) (a' := ?_) #[true, true, true, true, false, false, false, false, false, false, false, false, false, false, false, false, false, false] rfl rfl (any_of HT_.out (by kernel_rfl)) (fun _ _ _ h => h) (Or.inl ⟨by rfl, ?_⟩) ?_ ?_
            rotate_left
            ·intro w'
             go_simp
             with_reducible rfl
            rotate_left
            ·simp only [Act.put, List.setIfInBounds_toArray, List.set_cons_zero, List.set_cons_succ, i64_w, i32_w]
             rfl
            refine pure_ (i := 4) (N := some 19) (v := ?_) (a' := ?_) #[true, true, true, true, true, false, false, false, false, false, false, false, false, false, false, false, false, false] rfl rfl (any_of HT_.out (by kernel_rfl)) (fun _ _ _ h => h) (Or.inl ⟨by rfl, ?_⟩) ?_ ?_
            rotate_left
            ·intro w'
             go_simp
             with_reducible rfl
            rotate_left
            ·simp only [Act.put, List.setIfInBounds_toArray, List.set_cons_zero, List.set_cons_succ, i64_w, i32_w]
             rfl
            refine pure_ (i := 5) (N := some 20) (v := ?_) (a' := ?_) #[true, true, true, true, true, true, false, false, false, false, false, false, false, false, false, false, false, false] rfl rfl (any_of HT_.out (by kernel_rfl)) (fun _ _ _ h => h) (Or.inl ⟨by rfl, ?_⟩) ?_ ?_
            rotate_left
            ·intro w'
             go_simp
             with_reducible rfl
            rotate_left
            ·simp only [Act.put, List.setIfInBounds_toArray, List.set_cons_zero, List.set_cons_succ, i64_w, i32_w]
             rfl
            refine pure_ (i := 6) (N := some 21) (v := ?_) (a' := ?_) #[true, true, true, true, true, true, true, false, false, false, false, false, false, false, false, false, false, false] rfl rfl (any_of HT_.out (by kernel_rfl)) (fun _ _ _ h => h) (Or.inl ⟨by rfl, ?_⟩) ?_ ?_
            rotate_left
            ·intro w'
             go_simp
             with_reducible rfl
            rotate_left
            ·simp only [Act.put, List.setIfInBounds_toArray, List.set_cons_zero, List.set_cons_succ, i64_w, i32_w]
             rfl
            refine pure_ (i := 7) (N := some 22) (v := ?_) (a' := ?_) #[true, true, true, true, true, true, true, true, false, false, false, false, false, false, false, false, false, false] rfl rfl (any_of HT_.out (by kernel_rfl)) (fun _ _ _ h => h) (Or.inl ⟨by rfl, ?_⟩) ?_ ?_
            rotate_left
            ·intro w'
             go_simp
             with_reducible rfl
            rotate_left
            ·simp only [Act.put, List.setIfInBounds_toArray, List.set_cons_zero, List.set_cons_succ, i64_w, i32_w]
             rfl
            refine pure_ (i := 8) (N := some 23) (v := ?_) (a' := ?_) #[true, true, true, true, true, true, true, true, true, false, false, false, false, false, false, false, false, false] rfl rfl (any_of HT_.out (by kernel_rfl)) (fun _ _ _ h => h) (Or.inl ⟨by rfl, ?_⟩) ?_ ?_
            rotate_left
            ·intro w'
             go_simp
             with_reducible rfl
            rotate_left
            ·simp only [Act.put, List.setIfInBounds_toArray, List.set_cons_zero, List.set_cons_succ, i64_w, i32_w]
             rfl
            refine pure_ (i := 9) (N := some 24) (v := ?_) (a' := ?_) #[true, true, true, true, true, true, true, true, true, true, false, false, false, false, false, false, false, false] rfl rfl (any_of HT_.out (by kernel_rfl)) (fun _ _ _ h => h) (Or.inl ⟨by rfl, ?_⟩) ?_ ?_
            rotate_left
            ·intro w'
             go_simp
             with_reducible rfl
            rotate_left
            ·simp only [Act.put, List.setIfInBounds_toArray, List.set_cons_zero, List.set_cons_succ, i64_w, i32_w]
             rfl
            refine pure_ (i := 10) (N := some 25) (v := ?_) (a' := ?_) #[true, true, true, true, true, true, true, true, true, true, true, false, false, false, false, false, false, false] rfl rfl (any_of HT_.out (by kernel_rfl)) (fun _ _ _ h => h) (Or.inl ⟨by rfl, ?_⟩) ?_ ?_
            rotate_left
            ·intro w'
             go_simp
             with_reducible rfl
            rotate_left
            ·simp only [Act.put, List.setIfInBounds_toArray, List.set_cons_zero, List.set_cons_succ, i64_w, i32_w]
             rfl
            refine pure_ (i := 11) (N := some 26) (v := ?_) (a' := ?_) #[true, true, true, true, true, true, true, true, true, true, true, true, false, false, false, false, false, false] rfl rfl (any_of HT_.out (by kernel_rfl)) (fun _ _ _ h => h) (Or.inl ⟨by rfl, ?_⟩) ?_ ?_
            rotate_left
            ·intro w'
             go_simp
             with_reducible rfl
            rotate_left
            ·simp only [Act.put, List.setIfInBounds_toArray, List.set_cons_zero, List.set_cons_succ, i64_w, i32_w]
             rfl
            refine pure_ (i := 13) (N := some 28) (v := ?_) (a' := ?_) #[true, true, true, true, true, true, true, true, true, true, true, true, false, true, false, false, false, false] rfl rfl (any_of HT_.out (by kernel_rfl)) (fun _ _ _ h => h) (Or.inl ⟨by rfl, ?_⟩) ?_ ?_
            rotate_left
            ·intro w'
             go_simp
             with_reducible rfl
            rotate_left
            ·simp only [Act.put, List.setIfInBounds_toArray, List.set_cons_zero, List.set_cons_succ, i64_w, i32_w]
             rfl
            refine take_ (i := 12) (N := some 27) (v := ?_) (a' := ?_) #[true, true, true, true, true, true, true, true, true, true, true, true, true, true, false, false, false, false] rfl rfl (take_ofW HT_.out HW_.out (by kernel_rfl)) (fun _ _ _ h => h) (Or.inl ⟨by rfl, ?_⟩) hHeld ?_ ?_
            rotate_left
            ·rintro w' ⟨s0, s1, s2, s3, s4, s5, s6, s7⟩
             go_simp
             with_reducible rfl
            rotate_left
            ·simp only [Act.put, List.setIfInBounds_toArray, List.set_cons_zero, List.set_cons_succ, i64_w, i32_w]
             rfl
            refine take_ (i := 14) (N := some 29) (v := ?_) (a' := ?_) #[true, true, true, true, true, true, true, true, true, true, true, true, true, true, true, false, false, false] rfl rfl (take_ofW HT_.out HW_.out (by kernel_rfl)) (fun _ _ _ h => h) (Or.inl ⟨by rfl, ?_⟩) hHeld ?_ ?_
            rotate_left
            ·rintro w' ⟨s0, s1, s2, s3, s4, s5, s6, s7⟩
             go_simp
             with_reducible rfl
            rotate_left
            ·simp only [Act.put, List.setIfInBounds_toArray, List.set_cons_zero, List.set_cons_succ, i64_w, i32_w]
             rfl
            refine pure_ (i := 15) (N := some 30) (v := ?_) (a' := ?_) #[true, true, true, true, true, true, true, true, true, true, true, true, true, true, true, true, false, false] rfl rfl (any_of HT_.out (by kernel_rfl)) (fun _ _ _ h => h) (Or.inl ⟨by rfl, ?_⟩) ?_ ?_
            rotate_left
            ·intro w'
             go_simp
             with_reducible rfl
            rotate_left
            ·simp only [Act.put, List.setIfInBounds_toArray, List.set_cons_zero, List.set_cons_succ, i64_w, i32_w]
             rfl
            refine pure_ (i := 16) (N := some 31) (v := ?_) (a' := ?_) #[true, true, true, true, true, true, true, true, true, true, true, true, true, true, true, true, true, false] rfl rfl (any_of HT_.out (by kernel_rfl)) (fun _ _ _ h => h) (Or.inl ⟨by rfl, ?_⟩) ?_ ?_
            rotate_left
            ·intro w'
             go_simp
             with_reducible rfl
            rotate_left
            ·simp only [Act.put, List.setIfInBounds_toArray, List.set_cons_zero, List.set_cons_succ, i64_w, i32_w]
             rfl
            refine pure_ (i := 17) (N := some 32) (v := ?_) (a' := ?_) #[true, true, true, true, true, true, true, true, true, true, true, true, true, true, true, true, true, true] rfl rfl (any_of HT_.out (by kernel_rfl)) (fun _ _ _ h => h) (Or.inl ⟨by rfl, ?_⟩) ?_ ?_
            rotate_left
            ·intro w'
             go_simp
             with_reducible rfl
            rotate_left
            ·simp only [Act.put, List.setIfInBounds_toArray, List.set_cons_zero, List.set_cons_succ, i64_w, i32_w]
             rfl
            refine done_ (done_of HT_.out (by kernel_rfl)) ?_
            (try clear hji9w hji9)
            try go_wp2
            go_roundg k1
            case measure => have := HK1.out; omega
            case rel => exact ⟨(wrap64 (x10_1 + 1)), (by first | rfl | (simp; done) | (simp [*]; done)), H', ⟨by have := HK1.out; omega⟩, ⟨by repeat (first | (with_reducible first | exact HB.out | apply ba | apply bd | apply be | refine below_set ?_ GE523.out) | exact HB.out)⟩⟩
           ·rw [if_neg c12] at H
            have c12b0 : (Op.bytesLess (((rd_T59 l0 (ji9)).f0).toList) (((rd_T59 l0 x10_1).f0).toList)) = false := by simpa using c12
            clear c12
            obtain rfl := Option.some.inj H
            have p522 : 0 ≤ (x10_1 : Int) := of_decide_eq_true (by first | (with_reducible assumption) | assumption)
            have q522 : x10_1 < (l0.length : Int) := of_decide_eq_true (by first | (with_reducible assumption) | assumption)
            obtain ⟨ad522, e522, hx522_0, hx522_1, hx522_2, hx522_3⟩ := at_T59 HR0.out x10_1 p522 q522
            cases e522
            replace hx522_0 := (HB.out.cell (World.block_lt_of_cell? w _ hx522_0)).trans hx522_0
            replace hx522_1 := (HB.out.cell (World.block_lt_of_cell? w _ hx522_1)).trans hx522_1
            replace hx522_2 := (HB.out.cell (World.block_lt_of_cell? w _ hx522_2)).trans hx522_2
            replace hx522_3 := (HB.out.cell (World.block_lt_of_cell? w _ hx522_3)).trans hx522_3
            replace p522 := eq_true p522
            replace q522 := eq_true q522
            try go_wp2_with (first | ((with_reducible refine gate_dst (N := 4) rfl ?_); refine box_event ?hg (N := 4) ?hd (cs := #[.string (⟨#[]⟩ : ByteArray), .int .i64 0, .int .i64 0, .int .i64 0]) (t := 59) ?hr ?_; (case hd => rfl); (case hg => rfl); (case hr => first | (go_simp; done) | (go_simp; rfl)); intro gb523 hg w18 hbox hb; have n0_ := am (below_step (zL HB.out) hb); have n1_ := am (hbox); have n2_ := am (zS hg HB.out); have n3_ := am (zS hg HB.out); clear HB; have HB := n0_; have BK523 := n1_; have GW523 := n2_; have GE523 := n3_; clear n0_ n1_ n2_ n3_; clear hb hbox hg; obtain ⟨hcz19_0, hcz19_1, hcz19_2, hcz19_3, hfz19_0, hfz19_1, hfz19_2, hfz19_3⟩ := b4 BK523.out) | ((with_reducible refine gate_store (t := 59) (p := 4) rfl ?_); refine store_event (t := 59) (p := 4) (v := ?vo_w20) (w1 := ((((w18.setCell ⟨gb523, 0, none⟩ (.string ((rd_T59 l0 x10_1).f0))).setCell ⟨gb523, 1, none⟩ (.int .i64 ((rd_T59 l0 x10_1).f1))).setCell ⟨gb523, 2, none⟩ (.int .i64 ((rd_T59 l0 x10_1).f2))).setCell ⟨gb523, 3, none⟩ (.int .i64 ((rd_T59 l0 x10_1).f3)))) ?hg ?ho ?hn ?hr ?_; (case ho => rfl); (case hg => rfl); (case hn => rfl); (case hr => first | (go_simp; done) | (go_simp; rfl)); intro w20 hw; have n0_ : Aside0 (w20.heap[gb523]? = some (.cells #[.string ((rd_T59 l0 x10_1).f0), .int .i64 ((rd_T59 l0 x10_1).f1), .int .i64 ((rd_T59 l0 x10_1).f2), .int .i64 ((rd_T59 l0 x10_1).f3)] 59 (0, 0))) := ⟨(by rw [hw]; exact (by refine blk_put (cs := #[.string ((rd_T59 l0 x10_1).f0), .int .i64 ((rd_T59 l0 x10_1).f1), .int .i64 ((rd_T59 l0 x10_1).f2), .int .i64 0]) ?_ 3 _ rfl; refine blk_put (cs := #[.string ((rd_T59 l0 x10_1).f0), .int .i64 ((rd_T59 l0 x10_1).f1), .int .i64 0, .int .i64 0]) ?_ 2 _ rfl; refine blk_put (cs := #[.string ((rd_T59 l0 x10_1).f0), .int .i64 0, .int .i64 0, .int .i64 0]) ?_ 1 _ rfl; refine blk_put (cs := #[.string (⟨#[]⟩ : ByteArray), .int .i64 0, .int .i64 0, .int .i64 0]) ?_ 0 _ rfl; exact zB <| BK523.out))⟩; have n1_ : Aside0 (Below w.heap.size w w20) := ⟨(by rw [hw]; exact (by repeat (first | (with_reducible first | exact HB.out | apply ba | apply bd | apply be | refine below_set ?_ GE523.out) | exact HB.out)))⟩; clear hw BK523 HB; have BK523 := n0_; have HB := n1_; clear n0_ n1_))
            have n0_ := am (blk_drew BK523.out)
            have n1_ := am (below_drew1 HB.out)
            clear BK523 HB
            have BK523 := n0_
            have HB := n1_
            clear n0_ n1_
            have p525 : 0 ≤ ((ji9) : Int) := of_decide_eq_true (by first | (with_reducible assumption) | assumption)
            have q525 : (ji9) < (l0.length : Int) := of_decide_eq_true (by first | (with_reducible assumption) | assumption)
            obtain ⟨ad525, e525, hx525_0, hx525_1, hx525_2, hx525_3⟩ := at_T59 HR0.out (ji9) p525 q525
            have hw525_3 := hx525_3
            have hw525_2 := hx525_2
            have hw525_1 := hx525_1
            have hw525_0 := hx525_0
            obtain rfl : ad522 = ad525 := (by injection e525)
            replace hx525_0 := (HB.out.cell (World.block_lt_of_cell? w _ hx525_0)).trans hx525_0
            replace hx525_1 := (HB.out.cell (World.block_lt_of_cell? w _ hx525_1)).trans hx525_1
            replace hx525_2 := (HB.out.cell (World.block_lt_of_cell? w _ hx525_2)).trans hx525_2
            replace hx525_3 := (HB.out.cell (World.block_lt_of_cell? w _ hx525_3)).trans hx525_3
            replace p525 := eq_true p525
            replace q525 := eq_true q525
            refine start_ (n := 18) (S := fun w' => w'.cell? ⟨gb523, 0, none⟩ = some (.string ((rd_T59 l0 x10_1).f0)) ∧ w'.cell? ⟨gb523, 1, none⟩ = some (.int .i64 ((rd_T59 l0 x10_1).f1)) ∧ w'.cell? ⟨gb523, 2, none⟩ = some (.int .i64 ((rd_T59 l0 x10_1).f2)) ∧ w'.cell? ⟨gb523, 3, none⟩ = some (.int .i64 ((rd_T59 l0 x10_1).f3)) ∧ w'.cell? (ad522.add (((ji9)).toNat * 4)) = some (.string ((rd_T59 l0 (ji9)).f0)) ∧ w'.cell? ⟨(ad522.add (((ji9)).toNat * 4)).block, (ad522.add (((ji9)).toNat * 4)).off + 1, none⟩ = some (.int .i64 ((rd_T59 l0 (ji9)).f1)) ∧ w'.cell? ⟨(ad522.add (((ji9)).toNat * 4)).block, (ad522.add (((ji9)).toNat * 4)).off + 2, none⟩ = some (.int .i64 ((rd_T59 l0 (ji9)).f2)) ∧ w'.cell? ⟨(ad522.add (((ji9)).toNat * 4)).block, (ad522.add (((ji9)).toNat * 4)).off + 3, none⟩ = some (.int .i64 ((rd_T59 l0 (ji9)).f3))) (ds := []) #[false, false, false, false, false, false, false, false, false, false, false, false, false, false, false, false, false, false] (by kernel_rfl) rfl rfl ⟨(blk_cell BK523.out 0).trans rfl, (blk_cell BK523.out 1).trans rfl, (blk_cell BK523.out 2).trans rfl, (blk_cell BK523.out 3).trans rfl, ((HB.out.cell (World.block_lt_of_cell? w _ hw525_0)).trans hw525_0), ((HB.out.cell (World.block_lt_of_cell? w _ hw525_1)).trans hw525_1), ((HB.out.cell (World.block_lt_of_cell? w _ hw525_2)).trans hw525_2), ((HB.out.cell (World.block_lt_of_cell? w _ hw525_3)).trans hw525_3)⟩ (fun hHeld => ?_); refine with_tabW catalog_Valid.tab6 catalog_Valid.bits6 (fun HT_ HW_ => ?_)
            generalize w20.drew = w21 at BK523 HB hx525_0 hx525_1 hx525_2 hx525_3 hHeld ⊢
            refine take_ (i := 0) (N := some 15) (v := ?_) (a' := ?_) #[true, false, false, false, false, false, false, false, false, false, false, false, false, false, false, false, false, false] rfl rfl (take_ofW HT_.out HW_.out (by kernel_rfl)) (fun _ _ _ h => h) (Or.inl ⟨by rfl, ?_⟩) hHeld ?_ ?_
            rotate_left
            ·rintro w' ⟨s0, s1, s2, s3, s4, s5, s6, s7⟩
             go_simp
             with_reducible rfl
            rotate_left
            ·simp only [Act.put, List.setIfInBounds_toArray, List.set_cons_zero, List.set_cons_succ, i64_w, i32_w]
             rfl
            refine one_ (i := 1) (N := some 16) #[true, true, false, false, false, false, false, false, false, false, false, false, false, false, false, false, false, false] rfl rfl (one_of HT_.out (by kernel_rfl)) (by decide) (fun K hK => ?_)
            refine goes_ Try.func60 (by kernel_rfl) rfl #[.agg #[.string ((rd_T59 l0 x10_1).f0), .int .i64 ((rd_T59 l0 x10_1).f1), .int .i64 ((rd_T59 l0 x10_1).f2), .int .i64 ((rd_T59 l0 x10_1).f3)]] (by rfl) rfl rfl (by (try simp only [List.map_toArray, List.map_cons, List.map_nil]); first | done | rfl | (simp only [List.length_drop, List.length_take]; rfl)) ?_
            with_reducible refine (catalog_ValidResource.calls k1 ((rd_T59 l0 x10_1).f0) ((rd_T59 l0 x10_1).f1) ((rd_T59 l0 x10_1).f2) ((rd_T59 l0 x10_1).f3) true _ A6.out).mono ?_
            rintro e w22 ⟨rfl, hb⟩
            refine ⟨_, rfl, ?_⟩
            have n0_ := am (blk_below (zB BK523.out) hb)
            have n1_ := am (below_step (zL HB.out) hb)
            clear BK523 HB
            have BK523 := n0_
            have HB := n1_
            clear n0_ n1_
            (try clear hb)
            (try clear hb2)
            (try clear hk)
            (try clear hi)
            refine hK.out _ _ ⟨(blk_cell BK523.out 0).trans rfl, (blk_cell BK523.out 1).trans rfl, (blk_cell BK523.out 2).trans rfl, (blk_cell BK523.out 3).trans rfl, ((HB.out.cell (World.block_lt_of_cell? w _ hw525_0)).trans hw525_0), ((HB.out.cell (World.block_lt_of_cell? w _ hw525_1)).trans hw525_1), ((HB.out.cell (World.block_lt_of_cell? w _ hw525_2)).trans hw525_2), ((HB.out.cell (World.block_lt_of_cell? w _ hw525_3)).trans hw525_3)⟩ (fun hHeld => ?_)
            clear hK K
            refine norm_ (a' := ?_) ?_ ?_
            rotate_left
            ·show Act.put _ (some 16) _ = _
             simp only [Act.put, List.setIfInBounds_toArray, List.set_cons_zero, List.set_cons_succ, i64_w, i32_w]
             rfl
            refine pure_ (i := 2) (N := some 17) (v := ?_) (a' := ?_) #[true, true, true, false, false, false, false, false, false, false, false, false, false, false, false, false, false, false] rfl rfl (any_of HT_.out (by kernel_rfl)) (fun _ _ _ h => h) (Or.inl ⟨by rfl, ?_⟩) ?_ ?_
            rotate_left
            ·intro w'
             go_simp
             with_reducible rfl
            rotate_left
            ·simp only [Act.put, List.setIfInBounds_toArray, List.set_cons_zero, List.set_cons_succ, i64_w, i32_w]
             rfl
            refine pure_ (i := 3) (N := some 18) (v := ?_) (a' := ?_) #[true, true, true, true, false, false, false, false, false, false, false, false, false, false, false, false, false, false] rfl rfl (any_of HT_.out (by kernel_rfl)) (fun _ _ _ h => h) (Or.inl ⟨by rfl, ?_⟩) ?_ ?_
            rotate_left
            ·intro w'
             go_simp
             with_reducible rfl
            rotate_left
            ·simp only [Act.put, List.setIfInBounds_toArray, List.set_cons_zero, List.set_cons_succ, i64_w, i32_w]
             rfl
            refine pure_ (i := 4) (N := some 19) (v := ?_) (a' := ?_) #[true, true, true, true, true, false, false, false, false, false, false, false, false, false, false, false, false, false] rfl rfl (any_of HT_.out (by kernel_rfl)) (fun _ _ _ h => h) (Or.inl ⟨by rfl, ?_⟩) ?_ ?_
            rotate_left
            ·intro w'
             go_simp
             with_reducible rfl
            rotate_left
            ·simp only [Act.put, List.setIfInBounds_toArray, List.set_cons_zero, List.set_cons_succ, i64_w, i32_w]
             rfl
            refine pure_ (i := 5) (N := some 20) (v := ?_) (a' := ?_) #[true, true, true, true, true, true, false, false, false, false, false, false, false, false, false, false, false, false] rfl rfl (any_of HT_.out (by kernel_rfl)) (fun _ _ _ h => h) (Or.inl ⟨by rfl, ?_⟩) ?_ ?_
            rotate_left
            ·intro w'
             go_simp
             with_reducible rfl
            rotate_left
            ·simp only [Act.put, List.setIfInBounds_toArray, List.set_cons_zero, List.set_cons_succ, i64_w, i32_w]
             rfl
            refine pure_ (i := 6) (N := some 21) (v := ?_) (a' := ?_) #[true, true, true, true, true, true, true, false, false, false, false, false, false, false, false, false, false, false] rfl rfl (any_of HT_.out (by kernel_rfl)) (fun _ _ _ h => h) (Or.inl ⟨by rfl, ?_⟩) ?_ ?_
            rotate_left
            ·intro w'
             go_simp
             with_reducible rfl
            rotate_left
            ·simp only [Act.put, List.setIfInBounds_toArray, List.set_cons_zero, List.set_cons_succ, i64_w, i32_w]
             rfl
            refine pure_ (i := 7) (N := some 22) (v := ?_) (a' := ?_) #[true, true, true, true, true, true, true, true, false, false, false, false, false, false, false, false, false, false] rfl rfl (any_of HT_.out (by kernel_rfl)) (fun _ _ _ h => h) (Or.inl ⟨by rfl, ?_⟩) ?_ ?_
            rotate_left
            ·intro w'
             go_simp
             with_reducible rfl
            rotate_left
            ·simp only [Act.put, List.setIfInBounds_toArray, List.set_cons_zero, List.set_cons_succ, i64_w, i32_w]
             rfl
            refine pure_ (i := 8) (N := some 23) (v := ?_) (a' := ?_) #[true, true, true, true, true, true, true, true, true, false, false, false, false, false, false, false, false, false] rfl rfl (any_of HT_.out (by kernel_rfl)) (fun _ _ _ h => h) (Or.inl ⟨by rfl, ?_⟩) ?_ ?_
            rotate_left
            ·intro w'
             go_simp
             with_reducible rfl
            rotate_left
            ·simp only [Act.put, List.setIfInBounds_toArray, List.set_cons_zero, List.set_cons_succ, i64_w, i32_w]
             rfl
            refine pure_ (i := 9) (N := some 24) (v := ?_) (a' := ?_) #[true, true, true, true, true, true, true, true, true, true, false, false, false, false, false, false, false, false] rfl rfl (any_of HT_.out (by kernel_rfl)) (fun _ _ _ h => h) (Or.inl ⟨by rfl, ?_⟩) ?_ ?_
            rotate_left
            ·intro w'
             go_simp
             with_reducible rfl
            rotate_left
            ·simp only [Act.put, List.setIfInBounds_toArray, List.set_cons_zero, List.set_cons_succ, i64_w, i32_w]
             rfl
            refine pure_ (i := 10) (N := some 25) (v := ?_) (a' := ?_) #[true, true, true, true, true, true, true, true, true, true, true, false, false, false, false, false, false, false] rfl rfl (any_of HT_.out (by kernel_rfl)) (fun _ _ _ h => h) (Or.inl ⟨by rfl, ?_⟩) ?_ ?_
            rotate_left
            ·intro w'
             go_simp
             with_reducible rfl
            rotate_left
            ·simp only [Act.put, List.setIfInBounds_toArray, List.set_cons_zero, List.set_cons_succ, i64_w, i32_w]
             rfl
            refine pure_ (i := 11) (N := some 26) (v := ?_) (a' := ?_) #[true, true, true, true, true, true, true, true, true, true, true, true, false, false, false, false, false, false] rfl rfl (any_of HT_.out (by kernel_rfl)) (fun _ _ _ h => h) (Or.inl ⟨by rfl, ?_⟩) ?_ ?_
            rotate_left
            ·intro w'
             go_simp
             with_reducible rfl
            rotate_left
            ·simp only [Act.put, List.setIfInBounds_toArray, List.set_cons_zero, List.set_cons_succ, i64_w, i32_w]
             rfl
            refine pure_ (i := 13) (N := some 28) (v := ?_) (a' := ?_) #[true, true, true, true, true, true, true, true, true, true, true, true, false, true, false, false, false, false] rfl rfl (any_of HT_.out (by kernel_rfl)) (fun _ _ _ h => h) (Or.inl ⟨by rfl, ?_⟩) ?_ ?_
            rotate_left
            ·intro w'
             go_simp
             with_reducible rfl
            rotate_left
            ·simp only [Act.put, List.setIfInBounds_toArray, List.set_cons_zero, List.set_cons_succ, i64_w, i32_w]
             rfl
            refine take_ (i := 12) (N := some 27) (v := ?_) (a' := ?_) #[true, true, true, true, true, true, true, true, true, true, true, true, true, true, false, false, false, false] rfl rfl (take_ofW HT_.out HW_.out (by kernel_rfl)) (fun _ _ _ h => h) (Or.inl ⟨by rfl, ?_⟩) hHeld ?_ ?_
            rotate_left
            ·rintro w' ⟨s0, s1, s2, s3, s4, s5, s6, s7⟩
             go_simp
             with_reducible rfl
            rotate_left
            ·simp only [Act.put, List.setIfInBounds_toArray, List.set_cons_zero, List.set_cons_succ, i64_w, i32_w]
             rfl
            refine take_ (i := 14) (N := some 29) (v := ?_) (a' := ?_) #[true, true, true, true, true, true, true, true, true, true, true, true, true, true, true, false, false, false] rfl rfl (take_ofW HT_.out HW_.out (by kernel_rfl)) (fun _ _ _ h => h) (Or.inl ⟨by rfl, ?_⟩) hHeld ?_ ?_
            rotate_left
            ·rintro w' ⟨s0, s1, s2, s3, s4, s5, s6, s7⟩
             go_simp
             with_reducible rfl
            rotate_left
            ·simp only [Act.put, List.setIfInBounds_toArray, List.set_cons_zero, List.set_cons_succ, i64_w, i32_w]
             rfl
            refine pure_ (i := 15) (N := some 30) (v := ?_) (a' := ?_) #[true, true, true, true, true, true, true, true, true, true, true, true, true, true, true, true, false, false] rfl rfl (any_of HT_.out (by kernel_rfl)) (fun _ _ _ h => h) (Or.inl ⟨by rfl, ?_⟩) ?_ ?_
            rotate_left
            ·intro w'
             go_simp
             with_reducible rfl
            rotate_left
            ·simp only [Act.put, List.setIfInBounds_toArray, List.set_cons_zero, List.set_cons_succ, i64_w, i32_w]
             rfl
            refine pure_ (i := 16) (N := some 31) (v := ?_) (a' := ?_) #[true, true, true, true, true, true, true, true, true, true, true, true, true, true, true, true, true, false] rfl rfl (any_of HT_.out (by kernel_rfl)) (fun _ _ _ h => h) (Or.inl ⟨by rfl, ?_⟩) ?_ ?_
            rotate_left
            ·intro w'
             go_simp
             with_reducible rfl
            rotate_left
            ·simp only [Act.put, List.setIfInBounds_toArray, List.set_cons_zero, List.set_cons_succ, i64_w, i32_w]
             rfl
            refine pure_ (i := 17) (N := some 32) (v := ?_) (a' := ?_) #[true, true, true, true, true, true, true, true, true, true, true, true, true, true, true, true, true, true] rfl rfl (any_of HT_.out (by kernel_rfl)) (fun _ _ _ h => h) (Or.inl ⟨by rfl, ?_⟩) ?_ ?_
            rotate_left
            ·intro w'
             go_simp
             with_reducible rfl
            rotate_left
            ·simp only [Act.put, List.setIfInBounds_toArray, List.set_cons_zero, List.set_cons_succ, i64_w, i32_w]
             rfl
            refine done_ (done_of HT_.out (by kernel_rfl)) ?_
            (try clear hji9w hji9)
            try go_wp2
            go_ret
            exact ⟨by first | rfl | (simp [errW_none, errW_some] <;> rfl) | (simp only [← hji9]; first | rfl | (simp [errW_none, errW_some] <;> rfl)) | (simp [*, errW_none, errW_some] <;> rfl), by repeat (first | (with_reducible first | exact HB.out | apply ba | apply bd | apply be | refine below_set ?_ GE523.out) | exact HB.out)⟩
          ·rw [if_neg c11] at H
           exact absurd H (by simp)
         ·rw [if_neg c10] at H
          exact absurd H (by simp)
        ·rw [if_neg c8] at H
         have c8b0 : decide (0 < x10_1) = false := decide_eq_false c8
         clear c8
         have H' := Aside0.mk H
         clear H
         have p522 : 0 ≤ (x10_1 : Int) := of_decide_eq_true (by first | (with_reducible assumption) | assumption)
         have q522 : x10_1 < (l0.length : Int) := of_decide_eq_true (by first | (with_reducible assumption) | assumption)
         obtain ⟨ad522, e522, hx522_0, hx522_1, hx522_2, hx522_3⟩ := at_T59 HR0.out x10_1 p522 q522
         cases e522
         replace hx522_0 := (HB.out.cell (World.block_lt_of_cell? w _ hx522_0)).trans hx522_0
         replace hx522_1 := (HB.out.cell (World.block_lt_of_cell? w _ hx522_1)).trans hx522_1
         replace hx522_2 := (HB.out.cell (World.block_lt_of_cell? w _ hx522_2)).trans hx522_2
         replace hx522_3 := (HB.out.cell (World.block_lt_of_cell? w _ hx522_3)).trans hx522_3
         replace p522 := eq_true p522
         replace q522 := eq_true q522
         try go_wp2_with (first | ((with_reducible refine gate_dst (N := 4) rfl ?_); refine box_event ?hg (N := 4) ?hd (cs := #[.string (⟨#[]⟩ : ByteArray), .int .i64 0, .int .i64 0, .int .i64 0]) (t := 59) ?hr ?_; (case hd => rfl); (case hg => rfl); (case hr => first | (go_simp; done) | (go_simp; rfl)); intro gb523 hg w23 hbox hb; have n0_ := am (below_step (zL HB.out) hb); have n1_ := am (hbox); have n2_ := am (zS hg HB.out); have n3_ := am (zS hg HB.out); clear HB; have HB := n0_; have BK523 := n1_; have GW523 := n2_; have GE523 := n3_; clear n0_ n1_ n2_ n3_; clear hb hbox hg; obtain ⟨hcz24_0, hcz24_1, hcz24_2, hcz24_3, hfz24_0, hfz24_1, hfz24_2, hfz24_3⟩ := b4 BK523.out) | ((with_reducible refine gate_store (t := 59) (p := 4) rfl ?_); refine store_event (t := 59) (p := 4) (v := ?vo_w25) (w1 := ((((w23.setCell ⟨gb523, 0, none⟩ (.string ((rd_T59 l0 x10_1).f0))).setCell ⟨gb523, 1, none⟩ (.int .i64 ((rd_T59 l0 x10_1).f1))).setCell ⟨gb523, 2, none⟩ (.int .i64 ((rd_T59 l0 x10_1).f2))).setCell ⟨gb523, 3, none⟩ (.int .i64 ((rd_T59 l0 x10_1).f3)))) ?hg ?ho ?hn ?hr ?_; (case ho => rfl); (case hg => rfl); (case hn => rfl); (case hr => first | (go_simp; done) | (go_simp; rfl)); intro w25 hw; have n0_ : Aside0 (w25.heap[gb523]? = some (.cells #[.string ((rd_T59 l0 x10_1).f0), .int .i64 ((rd_T59 l0 x10_1).f1), .int .i64 ((rd_T59 l0 x10_1).f2), .int .i64 ((rd_T59 l0 x10_1).f3)] 59 (0, 0))) := ⟨(by rw [hw]; exact (by refine blk_put (cs := #[.string ((rd_T59 l0 x10_1).f0), .int .i64 ((rd_T59 l0 x10_1).f1), .int .i64 ((rd_T59 l0 x10_1).f2), .int .i64 0]) ?_ 3 _ rfl; refine blk_put (cs := #[.string ((rd_T59 l0 x10_1).f0), .int .i64 ((rd_T59 l0 x10_1).f1), .int .i64 0, .int .i64 0]) ?_ 2 _ rfl; refine blk_put (cs := #[.string ((rd_T59 l0 x10_1).f0), .int .i64 0, .int .i64 0, .int .i64 0]) ?_ 1 _ rfl; refine blk_put (cs := #[.string (⟨#[]⟩ : ByteArray), .int .i64 0, .int .i64 0, .int .i64 0]) ?_ 0 _ rfl; exact zB <| BK523.out))⟩; have n1_ : Aside0 (Below w.heap.size w w25) := ⟨(by rw [hw]; exact (by repeat (first | (with_reducible first | exact HB.out | apply ba | apply bd | apply be | refine below_set ?_ GE523.out) | exact HB.out)))⟩; clear hw BK523 HB; have BK523 := n0_; have HB := n1_; clear n0_ n1_))
         have n0_ := am (blk_drew BK523.out)
         have n1_ := am (below_drew1 HB.out)
         clear BK523 HB
         have BK523 := n0_
         have HB := n1_
         clear n0_ n1_
         refine start_ (n := 18) (S := fun w' => w'.cell? ⟨gb523, 0, none⟩ = some (.string ((rd_T59 l0 x10_1).f0)) ∧ w'.cell? ⟨gb523, 1, none⟩ = some (.int .i64 ((rd_T59 l0 x10_1).f1)) ∧ w'.cell? ⟨gb523, 2, none⟩ = some (.int .i64 ((rd_T59 l0 x10_1).f2)) ∧ w'.cell? ⟨gb523, 3, none⟩ = some (.int .i64 ((rd_T59 l0 x10_1).f3))) (ds := []) #[false, false, false, false, false, false, false, false, false, false, false, false, false, false, false, false, false, false] (by kernel_rfl) rfl rfl ⟨(blk_cell BK523.out 0).trans rfl, (blk_cell BK523.out 1).trans rfl, (blk_cell BK523.out 2).trans rfl, (blk_cell BK523.out 3).trans rfl⟩ (fun hHeld => ?_); refine with_tabW catalog_Valid.tab6 catalog_Valid.bits6 (fun HT_ HW_ => ?_)
         generalize w25.drew = w26 at BK523 HB hHeld ⊢
         refine take_ (i := 0) (N := some 15) (v := ?_) (a' := ?_) #[true, false, false, false, false, false, false, false, false, false, false, false, false, false, false, false, false, false] rfl rfl (take_ofW HT_.out HW_.out (by kernel_rfl)) (fun _ _ _ h => h) (Or.inl ⟨by rfl, ?_⟩) hHeld ?_ ?_
         rotate_left
         ·rintro w' ⟨s0, s1, s2, s3⟩
          go_simp
          with_reducible rfl
         rotate_left
         ·simp only [Act.put, List.setIfInBounds_toArray, List.set_cons_zero, List.set_cons_succ, i64_w, i32_w]
          rfl
         refine one_ (i := 1) (N := some 16) #[true, true, false, false, false, false, false, false, false, false, false, false, false, false, false, false, false, false] rfl rfl (one_of HT_.out (by kernel_rfl)) (by decide) (fun K hK => ?_)
         refine goes_ Try.func60 (by kernel_rfl) rfl #[.agg #[.string ((rd_T59 l0 x10_1).f0), .int .i64 ((rd_T59 l0 x10_1).f1), .int .i64 ((rd_T59 l0 x10_1).f2), .int .i64 ((rd_T59 l0 x10_1).f3)]] (by rfl) rfl rfl (by (try simp only [List.map_toArray, List.map_cons, List.map_nil]); first | done | rfl | (simp only [List.length_drop, List.length_take]; rfl)) ?_
         with_reducible refine (catalog_ValidResource.calls k1 ((rd_T59 l0 x10_1).f0) ((rd_T59 l0 x10_1).f1) ((rd_T59 l0 x10_1).f2) ((rd_T59 l0 x10_1).f3) true _ A6.out).mono ?_
         rintro e w27 ⟨rfl, hb⟩
         refine ⟨_, rfl, ?_⟩
         have n0_ := am (blk_below (zB BK523.out) hb)
         have n1_ := am (below_step (zL HB.out) hb)
         clear BK523 HB
         have BK523 := n0_
         have HB := n1_
         clear n0_ n1_
         (try clear hb)
         (try clear hb2)
         (try clear hk)
         (try clear hi)
         refine hK.out _ _ ⟨(blk_cell BK523.out 0).trans rfl, (blk_cell BK523.out 1).trans rfl, (blk_cell BK523.out 2).trans rfl, (blk_cell BK523.out 3).trans rfl⟩ (fun hHeld => ?_)
         clear hK K
         refine norm_ (a' := ?_) ?_ ?_
         rotate_left
         ·show Act.put _ (some 16) _ = _
          simp only [Act.put, List.setIfInBounds_toArray, List.set_cons_zero, List.set_cons_succ, i64_w, i32_w]
          rfl
         refine pure_ (i := 2) (N := some 17) (v := ?_) (a' := ?_) #[true, true, true, false, false, false, false, false, false, false, false, false, false, false, false, false, false, false] rfl rfl (any_of HT_.out (by kernel_rfl)) (fun _ _ _ h => h) (Or.inl ⟨by rfl, ?_⟩) ?_ ?_
         rotate_left
         ·intro w'
          go_simp
          with_reducible rfl
         rotate_left
         ·simp only [Act.put, List.setIfInBounds_toArray, List.set_cons_zero, List.set_cons_succ, i64_w, i32_w]
          rfl
         refine pure_ (i := 3) (N := some 18) (v := ?_) (a' := ?_) #[true, true, true, true, false, false, false, false, false, false, false, false, false, false, false, false, false, false] rfl rfl (any_of HT_.out (by kernel_rfl)) (fun _ _ _ h => h) (Or.inl ⟨by rfl, ?_⟩) ?_ ?_
         rotate_left
         ·intro w'
          go_simp
          with_reducible rfl
         rotate_left
         ·simp only [Act.put, List.setIfInBounds_toArray, List.set_cons_zero, List.set_cons_succ, i64_w, i32_w]
          rfl
         refine pure_ (i := 4) (N := some 19) (v := ?_) (a' := ?_) #[true, true, true, true, true, false, false, false, false, false, false, false, false, false, false, false, false, false] rfl rfl (any_of HT_.out (by kernel_rfl)) (fun _ _ _ h => h) (Or.inl ⟨by rfl, ?_⟩) ?_ ?_
         rotate_left
         ·intro w'
          go_simp
          with_reducible rfl
         rotate_left
         ·simp only [Act.put, List.setIfInBounds_toArray, List.set_cons_zero, List.set_cons_succ, i64_w, i32_w]
          rfl
         refine pure_ (i := 5) (N := some 20) (v := ?_) (a' := ?_) #[true, true, true, true, true, true, false, false, false, false, false, false, false, false, false, false, false, false] rfl rfl (any_of HT_.out (by kernel_rfl)) (fun _ _ _ h => h) (Or.inl ⟨by rfl, ?_⟩) ?_ ?_
         rotate_left
         ·intro w'
          go_simp
          with_reducible rfl
         rotate_left
         ·simp only [Act.put, List.setIfInBounds_toArray, List.set_cons_zero, List.set_cons_succ, i64_w, i32_w]
          rfl
         refine pure_ (i := 6) (N := some 21) (v := ?_) (a' := ?_) #[true, true, true, true, true, true, true, false, false, false, false, false, false, false, false, false, false, false] rfl rfl (any_of HT_.out (by kernel_rfl)) (fun _ _ _ h => h) (Or.inl ⟨by rfl, ?_⟩) ?_ ?_
         rotate_left
         ·intro w'
          go_simp
          with_reducible rfl
         rotate_left
         ·simp only [Act.put, List.setIfInBounds_toArray, List.set_cons_zero, List.set_cons_succ, i64_w, i32_w]
          rfl
         refine pure_ (i := 7) (N := some 22) (v := undef) (a' := ?_) #[true, true, true, true, true, true, true, true, false, false, false, false, false, false, false, false, false, false] rfl rfl (any_of HT_.out (by kernel_rfl)) (fun _ _ _ h => h) (Or.inr ⟨by rfl, rfl⟩) ?_ ?_
         rotate_left
         ·simp only [Act.put, List.setIfInBounds_toArray, List.set_cons_zero, List.set_cons_succ, i64_w, i32_w]
          rfl
         refine pure_ (i := 8) (N := some 23) (v := undef) (a' := ?_) #[true, true, true, true, true, true, true, true, true, false, false, false, false, false, false, false, false, false] rfl rfl (any_of HT_.out (by kernel_rfl)) (fun _ _ _ h => h) (Or.inr ⟨by rfl, rfl⟩) ?_ ?_
         rotate_left
         ·simp only [Act.put, List.setIfInBounds_toArray, List.set_cons_zero, List.set_cons_succ, i64_w, i32_w]
          rfl
         refine pure_ (i := 9) (N := some 24) (v := undef) (a' := ?_) #[true, true, true, true, true, true, true, true, true, true, false, false, false, false, false, false, false, false] rfl rfl (any_of HT_.out (by kernel_rfl)) (fun _ _ _ h => h) (Or.inr ⟨by rfl, rfl⟩) ?_ ?_
         rotate_left
         ·simp only [Act.put, List.setIfInBounds_toArray, List.set_cons_zero, List.set_cons_succ, i64_w, i32_w]
          rfl
         refine pure_ (i := 10) (N := some 25) (v := undef) (a' := ?_) #[true, true, true, true, true, true, true, true, true, true, true, false, false, false, false, false, false, false] rfl rfl (any_of HT_.out (by kernel_rfl)) (fun _ _ _ h => h) (Or.inr ⟨by rfl, rfl⟩) ?_ ?_
         rotate_left
         ·simp only [Act.put, List.setIfInBounds_toArray, List.set_cons_zero, List.set_cons_succ, i64_w, i32_w]
          rfl
         refine pure_ (i := 11) (N := some 26) (v := undef) (a' := ?_) #[true, true, true, true, true, true, true, true, true, true, true, true, false, false, false, false, false, false] rfl rfl (any_of HT_.out (by kernel_rfl)) (fun _ _ _ h => h) (Or.inr ⟨by rfl, rfl⟩) ?_ ?_
         rotate_left
         ·simp only [Act.put, List.setIfInBounds_toArray, List.set_cons_zero, List.set_cons_succ, i64_w, i32_w]
          rfl
         refine pure_ (i := 12) (N := some 27) (v := undef) (a' := ?_) #[true, true, true, true, true, true, true, true, true, true, true, true, true, false, false, false, false, false] rfl rfl (any_of HT_.out (by kernel_rfl)) (fun _ _ _ h => h) (Or.inr ⟨by rfl, rfl⟩) ?_ ?_
         rotate_left
         ·simp only [Act.put, List.setIfInBounds_toArray, List.set_cons_zero, List.set_cons_succ, i64_w, i32_w]
          rfl
         refine pure_ (i := 13) (N := some 28) (v := undef) (a' := ?_) #[true, true, true, true, true, true, true, true, true, true, true, true, true, true, false, false, false, false] rfl rfl (any_of HT_.out (by kernel_rfl)) (fun _ _ _ h => h) (Or.inr ⟨by rfl, rfl⟩) ?_ ?_
         rotate_left
         ·simp only [Act.put, List.setIfInBounds_toArray, List.set_cons_zero, List.set_cons_succ, i64_w, i32_w]
          rfl
         refine pure_ (i := 14) (N := some 29) (v := undef) (a' := ?_) #[true, true, true, true, true, true, true, true, true, true, true, true, true, true, true, false, false, false] rfl rfl (any_of HT_.out (by kernel_rfl)) (fun _ _ _ h => h) (Or.inr ⟨by rfl, rfl⟩) ?_ ?_
         rotate_left
         ·simp only [Act.put, List.setIfInBounds_toArray, List.set_cons_zero, List.set_cons_succ, i64_w, i32_w]
          rfl
         refine pure_ (i := 15) (N := some 30) (v := undef) (a' := ?_) #[true, true, true, true, true, true, true, true, true, true, true, true, true, true, true, true, false, false] rfl rfl (any_of HT_.out (by kernel_rfl)) (fun _ _ _ h => h) (Or.inr ⟨by rfl, rfl⟩) ?_ ?_
         rotate_left
         ·simp only [Act.put, List.setIfInBounds_toArray, List.set_cons_zero, List.set_cons_succ, i64_w, i32_w]
          rfl
         refine pure_ (i := 16) (N := some 31) (v := ?_) (a' := ?_) #[true, true, true, true, true, true, true, true, true, true, true, true, true, true, true, true, true, false] rfl rfl (any_of HT_.out (by kernel_rfl)) (fun _ _ _ h => h) (Or.inl ⟨by rfl, ?_⟩) ?_ ?_
         rotate_left
         ·intro w'
          go_simp
          with_reducible rfl
         rotate_left
         ·simp only [Act.put, List.setIfInBounds_toArray, List.set_cons_zero, List.set_cons_succ, i64_w, i32_w]
          rfl
         refine pure_ (i := 17) (N := some 32) (v := ?_) (a' := ?_) #[true, true, true, true, true, true, true, true, true, true, true, true, true, true, true, true, true, true] rfl rfl (any_of HT_.out (by kernel_rfl)) (fun _ _ _ h => h) (Or.inl ⟨by rfl, ?_⟩) ?_ ?_
         rotate_left
         ·intro w'
          go_simp
          with_reducible rfl
         rotate_left
         ·simp only [Act.put, List.setIfInBounds_toArray, List.set_cons_zero, List.set_cons_succ, i64_w, i32_w]
          rfl
         refine done_ (done_of HT_.out (by kernel_rfl)) ?_
         (try clear hji9w hji9)
         try go_wp2
         go_roundg k1
         case measure => have := HK1.out; omega
         case rel => exact ⟨(wrap64 (x10_1 + 1)), (by first | rfl | (simp; done) | (simp [*]; done)), H', ⟨by have := HK1.out; omega⟩, ⟨by repeat (first | (with_reducible first | exact HB.out | apply ba | apply bd | apply be | refine below_set ?_ GE523.out) | exact HB.out)⟩⟩
       ·replace c7 := Bool.eq_false_iff.mpr c7
        subst c7
        have H1 : (some false) = some r := by rw [if_neg (show ¬ (false = true) by decide)] at H; exact H
        clear H
        have H := H1
        clear H1
        obtain rfl := Option.some.inj H
        have p522 : 0 ≤ (x10_1 : Int) := of_decide_eq_true (by first | (with_reducible assumption) | assumption)
        have q522 : x10_1 < (l0.length : Int) := of_decide_eq_true (by first | (with_reducible assumption) | assumption)
        obtain ⟨ad522, e522, hx522_0, hx522_1, hx522_2, hx522_3⟩ := at_T59 HR0.out x10_1 p522 q522
        cases e522
        replace hx522_0 := (HB.out.cell (World.block_lt_of_cell? w _ hx522_0)).trans hx522_0
        replace hx522_1 := (HB.out.cell (World.block_lt_of_cell? w _ hx522_1)).trans hx522_1
        replace hx522_2 := (HB.out.cell (World.block_lt_of_cell? w _ hx522_2)).trans hx522_2
        replace hx522_3 := (HB.out.cell (World.block_lt_of_cell? w _ hx522_3)).trans hx522_3
        replace p522 := eq_true p522
        replace q522 := eq_true q522
        try go_wp2_with (first | ((with_reducible refine gate_dst (N := 4) rfl ?_); refine box_event ?hg (N := 4) ?hd (cs := #[.string (⟨#[]⟩ : ByteArray), .int .i64 0, .int .i64 0, .int .i64 0]) (t := 59) ?hr ?_; (case hd => rfl); (case hg => rfl); (case hr => first | (go_simp; done) | (go_simp; rfl)); intro gb523 hg w28 hbox hb; have n0_ := am (below_step (zL HB.out) hb); have n1_ := am (hbox); have n2_ := am (zS hg HB.out); have n3_ := am (zS hg HB.out); clear HB; have HB := n0_; have BK523 := n1_; have GW523 := n2_; have GE523 := n3_; clear n0_ n1_ n2_ n3_; clear hb hbox hg; obtain ⟨hcz29_0, hcz29_1, hcz29_2, hcz29_3, hfz29_0, hfz29_1, hfz29_2, hfz29_3⟩ := b4 BK523.out) | ((with_reducible refine gate_store (t := 59) (p := 4) rfl ?_); refine store_event (t := 59) (p := 4) (v := ?vo_w30) (w1 := ((((w28.setCell ⟨gb523, 0, none⟩ (.string ((rd_T59 l0 x10_1).f0))).setCell ⟨gb523, 1, none⟩ (.int .i64 ((rd_T59 l0 x10_1).f1))).setCell ⟨gb523, 2, none⟩ (.int .i64 ((rd_T59 l0 x10_1).f2))).setCell ⟨gb523, 3, none⟩ (.int .i64 ((rd_T59 l0 x10_1).f3)))) ?hg ?ho ?hn ?hr ?_; (case ho => rfl); (case hg => rfl); (case hn => rfl); (case hr => first | (go_simp; done) | (go_simp; rfl)); intro w30 hw; have n0_ : Aside0 (w30.heap[gb523]? = some (.cells #[.string ((rd_T59 l0 x10_1).f0), .int .i64 ((rd_T59 l0 x10_1).f1), .int .i64 ((rd_T59 l0 x10_1).f2), .int .i64 ((rd_T59 l0 x10_1).f3)] 59 (0, 0))) := ⟨(by rw [hw]; exact (by refine blk_put (cs := #[.string ((rd_T59 l0 x10_1).f0), .int .i64 ((rd_T59 l0 x10_1).f1), .int .i64 ((rd_T59 l0 x10_1).f2), .int .i64 0]) ?_ 3 _ rfl; refine blk_put (cs := #[.string ((rd_T59 l0 x10_1).f0), .int .i64 ((rd_T59 l0 x10_1).f1), .int .i64 0, .int .i64 0]) ?_ 2 _ rfl; refine blk_put (cs := #[.string ((rd_T59 l0 x10_1).f0), .int .i64 0, .int .i64 0, .int .i64 0]) ?_ 1 _ rfl; refine blk_put (cs := #[.string (⟨#[]⟩ : ByteArray), .int .i64 0, .int .i64 0, .int .i64 0]) ?_ 0 _ rfl; exact zB <| BK523.out))⟩; have n1_ : Aside0 (Below w.heap.size w w30) := ⟨(by rw [hw]; exact (by repeat (first | (with_reducible first | exact HB.out | apply ba | apply bd | apply be | refine below_set ?_ GE523.out) | exact HB.out)))⟩; clear hw BK523 HB; have BK523 := n0_; have HB := n1_; clear n0_ n1_))
        have n0_ := am (blk_drew BK523.out)
        have n1_ := am (below_drew1 HB.out)
        clear BK523 HB
        have BK523 := n0_
        have HB := n1_
        clear n0_ n1_
        refine start_ (n := 18) (S := fun w' => w'.cell? ⟨gb523, 0, none⟩ = some (.string ((rd_T59 l0 x10_1).f0)) ∧ w'.cell? ⟨gb523, 1, none⟩ = some (.int .i64 ((rd_T59 l0 x10_1).f1)) ∧ w'.cell? ⟨gb523, 2, none⟩ = some (.int .i64 ((rd_T59 l0 x10_1).f2)) ∧ w'.cell? ⟨gb523, 3, none⟩ = some (.int .i64 ((rd_T59 l0 x10_1).f3))) (ds := []) #[false, false, false, false, false, false, false, false, false, false, false, false, false, false, false, false, false, false] (by kernel_rfl) rfl rfl ⟨(blk_cell BK523.out 0).trans rfl, (blk_cell BK523.out 1).trans rfl, (blk_cell BK523.out 2).trans rfl, (blk_cell BK523.out 3).trans rfl⟩ (fun hHeld => ?_); refine with_tabW catalog_Valid.tab6 catalog_Valid.bits6 (fun HT_ HW_ => ?_)
        generalize w30.drew = w31 at BK523 HB hHeld ⊢
        refine take_ (i := 0) (N := some 15) (v := ?_) (a' := ?_) #[true, false, false, false, false, false, false, false, false, false, false, false, false, false, false, false, false, false] rfl rfl (take_ofW HT_.out HW_.out (by kernel_rfl)) (fun _ _ _ h => h) (Or.inl ⟨by rfl, ?_⟩) hHeld ?_ ?_
        rotate_left
        ·rintro w' ⟨s0, s1, s2, s3⟩
         go_simp
         with_reducible rfl
        rotate_left
        ·simp only [Act.put, List.setIfInBounds_toArray, List.set_cons_zero, List.set_cons_succ, i64_w, i32_w]
         rfl
        refine one_ (i := 1) (N := some 16) #[true, true, false, false, false, false, false, false, false, false, false, false, false, false, false, false, false, false] rfl rfl (one_of HT_.out (by kernel_rfl)) (by decide) (fun K hK => ?_)
        refine goes_ Try.func60 (by kernel_rfl) rfl #[.agg #[.string ((rd_T59 l0 x10_1).f0), .int .i64 ((rd_T59 l0 x10_1).f1), .int .i64 ((rd_T59 l0 x10_1).f2), .int .i64 ((rd_T59 l0 x10_1).f3)]] (by rfl) rfl rfl (by (try simp only [List.map_toArray, List.map_cons, List.map_nil]); first | done | rfl | (simp only [List.length_drop, List.length_take]; rfl)) ?_
        with_reducible refine (catalog_ValidResource.calls k1 ((rd_T59 l0 x10_1).f0) ((rd_T59 l0 x10_1).f1) ((rd_T59 l0 x10_1).f2) ((rd_T59 l0 x10_1).f3) false _ A6.out).mono ?_
        rintro e w32 ⟨rfl, hb⟩
        refine ⟨_, rfl, ?_⟩
        have n0_ := am (blk_below (zB BK523.out) hb)
        have n1_ := am (below_step (zL HB.out) hb)
        clear BK523 HB
        have BK523 := n0_
        have HB := n1_
        clear n0_ n1_
        (try clear hb)
        (try clear hb2)
        (try clear hk)
        (try clear hi)
        refine hK.out _ _ ⟨(blk_cell BK523.out 0).trans rfl, (blk_cell BK523.out 1).trans rfl, (blk_cell BK523.out 2).trans rfl, (blk_cell BK523.out 3).trans rfl⟩ (fun hHeld => ?_)
        clear hK K
        refine norm_ (a' := ?_) ?_ ?_
        rotate_left
        ·show Act.put _ (some 16) _ = _
         simp only [Act.put, List.setIfInBounds_toArray, List.set_cons_zero, List.set_cons_succ, i64_w, i32_w]
         rfl
        refine pure_ (i := 2) (N := some 17) (v := ?_) (a' := ?_) #[true, true, true, false, false, false, false, false, false, false, false, false, false, false, false, false, false, false] rfl rfl (any_of HT_.out (by kernel_rfl)) (fun _ _ _ h => h) (Or.inl ⟨by rfl, ?_⟩) ?_ ?_
        rotate_left
        ·intro w'
         go_simp
         with_reducible rfl
        rotate_left
        ·simp only [Act.put, List.setIfInBounds_toArray, List.set_cons_zero, List.set_cons_succ, i64_w, i32_w]
         rfl
        refine pure_ (i := 3) (N := some 18) (v := ?_) (a' := ?_) #[true, true, true, true, false, false, false, false, false, false, false, false, false, false, false, false, false, false] rfl rfl (any_of HT_.out (by kernel_rfl)) (fun _ _ _ h => h) (Or.inl ⟨by rfl, ?_⟩) ?_ ?_
        rotate_left
        ·intro w'
         go_simp
         with_reducible rfl
        rotate_left
        ·simp only [Act.put, List.setIfInBounds_toArray, List.set_cons_zero, List.set_cons_succ, i64_w, i32_w]
         rfl
        refine pure_ (i := 4) (N := some 19) (v := undef) (a' := ?_) #[true, true, true, true, true, false, false, false, false, false, false, false, false, false, false, false, false, false] rfl rfl (any_of HT_.out (by kernel_rfl)) (fun _ _ _ h => h) (Or.inr ⟨by rfl, rfl⟩) ?_ ?_
        rotate_left
        ·simp only [Act.put, List.setIfInBounds_toArray, List.set_cons_zero, List.set_cons_succ, i64_w, i32_w]
         rfl
        refine pure_ (i := 5) (N := some 20) (v := undef) (a' := ?_) #[true, true, true, true, true, true, false, false, false, false, false, false, false, false, false, false, false, false] rfl rfl (any_of HT_.out (by kernel_rfl)) (fun _ _ _ h => h) (Or.inr ⟨by rfl, rfl⟩) ?_ ?_
        rotate_left
        ·simp only [Act.put, List.setIfInBounds_toArray, List.set_cons_zero, List.set_cons_succ, i64_w, i32_w]
         rfl
        refine pure_ (i := 6) (N := some 21) (v := undef) (a' := ?_) #[true, true, true, true, true, true, true, false, false, false, false, false, false, false, false, false, false, false] rfl rfl (any_of HT_.out (by kernel_rfl)) (fun _ _ _ h => h) (Or.inr ⟨by rfl, rfl⟩) ?_ ?_
        rotate_left
        ·simp only [Act.put, List.setIfInBounds_toArray, List.set_cons_zero, List.set_cons_succ, i64_w, i32_w]
         rfl
        refine pure_ (i := 7) (N := some 22) (v := undef) (a' := ?_) #[true, true, true, true, true, true, true, true, false, false, false, false, false, false, false, false, false, false] rfl rfl (any_of HT_.out (by kernel_rfl)) (fun _ _ _ h => h) (Or.inr ⟨by rfl, rfl⟩) ?_ ?_
        rotate_left
        ·simp only [Act.put, List.setIfInBounds_toArray, List.set_cons_zero, List.set_cons_succ, i64_w, i32_w]
         rfl
        refine pure_ (i := 8) (N := some 23) (v := undef) (a' := ?_) #[true, true, true, true, true, true, true, true, true, false, false, false, false, false, false, false, false, false] rfl rfl (any_of HT_.out (by kernel_rfl)) (fun _ _ _ h => h) (Or.inr ⟨by rfl, rfl⟩) ?_ ?_
        rotate_left
        ·simp only [Act.put, List.setIfInBounds_toArray, List.set_cons_zero, List.set_cons_succ, i64_w, i32_w]
         rfl
        refine pure_ (i := 9) (N := some 24) (v := undef) (a' := ?_) #[true, true, true, true, true, true, true, true, true, true, false, false, false, false, false, false, false, false] rfl rfl (any_of HT_.out (by kernel_rfl)) (fun _ _ _ h => h) (Or.inr ⟨by rfl, rfl⟩) ?_ ?_
        rotate_left
        ·simp only [Act.put, List.setIfInBounds_toArray, List.set_cons_zero, List.set_cons_succ, i64_w, i32_w]
         rfl
        refine pure_ (i := 10) (N := some 25) (v := undef) (a' := ?_) #[true, true, true, true, true, true, true, true, true, true, true, false, false, false, false, false, false, false] rfl rfl (any_of HT_.out (by kernel_rfl)) (fun _ _ _ h => h) (Or.inr ⟨by rfl, rfl⟩) ?_ ?_
        rotate_left
        ·simp only [Act.put, List.setIfInBounds_toArray, List.set_cons_zero, List.set_cons_succ, i64_w, i32_w]
         rfl
        refine pure_ (i := 11) (N := some 26) (v := undef) (a' := ?_) #[true, true, true, true, true, true, true, true, true, true, true, true, false, false, false, false, false, false] rfl rfl (any_of HT_.out (by kernel_rfl)) (fun _ _ _ h => h) (Or.inr ⟨by rfl, rfl⟩) ?_ ?_
        rotate_left
        ·simp only [Act.put, List.setIfInBounds_toArray, List.set_cons_zero, List.set_cons_succ, i64_w, i32_w]
         rfl
        refine pure_ (i := 12) (N := some 27) (v := undef) (a' := ?_) #[true, true, true, true, true, true, true, true, true, true, true, true, true, false, false, false, false, false] rfl rfl (any_of HT_.out (by kernel_rfl)) (fun _ _ _ h => h) (Or.inr ⟨by rfl, rfl⟩) ?_ ?_
        rotate_left
        ·simp only [Act.put, List.setIfInBounds_toArray, List.set_cons_zero, List.set_cons_succ, i64_w, i32_w]
         rfl
        refine pure_ (i := 13) (N := some 28) (v := undef) (a' := ?_) #[true, true, true, true, true, true, true, true, true, true, true, true, true, true, false, false, false, false] rfl rfl (any_of HT_.out (by kernel_rfl)) (fun _ _ _ h => h) (Or.inr ⟨by rfl, rfl⟩) ?_ ?_
        rotate_left
        ·simp only [Act.put, List.setIfInBounds_toArray, List.set_cons_zero, List.set_cons_succ, i64_w, i32_w]
         rfl
        refine pure_ (i := 14) (N := some 29) (v := undef) (a' := ?_) #[true, true, true, true, true, true, true, true, true, true, true, true, true, true, true, false, false, false] rfl rfl (any_of HT_.out (by kernel_rfl)) (fun _ _ _ h => h) (Or.inr ⟨by rfl, rfl⟩) ?_ ?_
        rotate_left
        ·simp only [Act.put, List.setIfInBounds_toArray, List.set_cons_zero, List.set_cons_succ, i64_w, i32_w]
         rfl
        refine pure_ (i := 15) (N := some 30) (v := undef) (a' := ?_) #[true, true, true, true, true, true, true, true, true, true, true, true, true, true, true, true, false, false] rfl rfl (any_of HT_.out (by kernel_rfl)) (fun _ _ _ h => h) (Or.inr ⟨by rfl, rfl⟩) ?_ ?_
        rotate_left
        ·simp only [Act.put, List.setIfInBounds_toArray, List.set_cons_zero, List.set_cons_succ, i64_w, i32_w]
         rfl
        refine pure_ (i := 16) (N := some 31) (v := undef) (a' := ?_) #[true, true, true, true, true, true, true, true, true, true, true, true, true, true, true, true, true, false] rfl rfl (any_of HT_.out (by kernel_rfl)) (fun _ _ _ h => h) (Or.inr ⟨by rfl, rfl⟩) ?_ ?_
        rotate_left
        ·simp only [Act.put, List.setIfInBounds_toArray, List.set_cons_zero, List.set_cons_succ, i64_w, i32_w]
         rfl
        refine pure_ (i := 17) (N := some 32) (v := ?_) (a' := ?_) #[true, true, true, true, true, true, true, true, true, true, true, true, true, true, true, true, true, true] rfl rfl (any_of HT_.out (by kernel_rfl)) (fun _ _ _ h => h) (Or.inl ⟨by rfl, ?_⟩) ?_ ?_
        rotate_left
        ·intro w'
         go_simp
         with_reducible rfl
        rotate_left
        ·simp only [Act.put, List.setIfInBounds_toArray, List.set_cons_zero, List.set_cons_succ, i64_w, i32_w]
         rfl
        refine done_ (done_of HT_.out (by kernel_rfl)) ?_
        (try clear hji9w hji9)
        try go_wp2
        go_ret
        exact ⟨by first | rfl | (simp [errW_none, errW_some] <;> rfl) | (simp [*, errW_none, errW_some] <;> rfl), by repeat (first | (with_reducible first | exact HB.out | apply ba | apply bd | apply be | refine below_set ?_ GE523.out) | exact HB.out)⟩
      ·rw [if_neg c5] at H
       exact absurd H (by simp)
     ·rw [if_neg c4] at H
      exact absurd H (by simp)
    ·rw [if_neg c3] at H
     have c3b0 : decide (x10_1 < (l0.length : Int)) = false := decide_eq_false c3
     clear c3
     obtain rfl := Option.some.inj H
     go_wp2
     go_ret
     exact ⟨by first | rfl | (simp [errW_none, errW_some] <;> rfl) | (simp [*, errW_none, errW_some] <;> rfl), zL HB.out⟩

end Go.Proofs.Ytefbcebpokoinaa.Y

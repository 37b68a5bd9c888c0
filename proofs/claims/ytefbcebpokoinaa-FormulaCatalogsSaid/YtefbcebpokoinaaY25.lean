-- Laid by a program of this session's (xprint.py, which runs the kit's print.py with patches of its own). Lean checks it.
import Derived.Test.YtefbcebpokoinaaY0
import Derived.Test.YtefbcebpokoinaaY3
import Derived.Test.YtefbcebpokoinaaY5
import Derived.Test.YtefbcebpokoinaaY6
import Derived.Test.YtefbcebpokoinaaY24
namespace Go.Proofs.Ytefbcebpokoinaa.Y
open Go.RowKit Go.Proofs.YtefbcebpokoinaaW.PrintWords Go.Proofs.YtefbcebpokoinaaW.PrintLast Go.Proofs.YtefbcebpokoinaaW.PrintMore
attribute [local go_sem] max2_int min2_int max_two min_two max_three min_three max_four min_four   -- for this text's walks alone
set_option linter.unusedVariables false
set_option linter.unusedSimpArgs false

/-! ### catalog_Find: function 49 -/
def catalog_Find.l0 : Nat → ByteArray → List (S59) → Int → Int → Option (ByteArray × Int × Int × Int × Bool)
 | 0, _, _, _, _ => none
 | k + 1, x1, x8, x9, x10 => if x10 < x9 then (if 0 ≤ x10 then (if x10 < (x8.length : Int) then (if ((rd_T59 x8 x10).f0).toList = x1.toList then (some ((rd_T59 x8 x10).f0, (rd_T59 x8 x10).f1, (rd_T59 x8 x10).f2, (rd_T59 x8 x10).f3, true)) else (catalog_Find.l0 k x1 x8 x9 (wrap64 (x10 + 1)))) else (none)) else (none)) else (some ((⟨#[]⟩ : ByteArray), 0, 0, 0, false))
def catalog_Find.f (k : Nat) (l0 : List (S59)) (a1 : ByteArray) : Option (ByteArray × Int × Int × Int × Bool) := catalog_Find.l0 k a1 l0 (l0.length : Int) 0
theorem catalog_Find.mono_l : ∀ k, (∀ y0 y1 y2 y3, LeO (catalog_Find.l0 k y0 y1 y2 y3) (catalog_Find.l0 (k + 1) y0 y1 y2 y3))
 | 0 => fun _ _ _ _ r h => by simp [catalog_Find.l0] at h
 | k + 1 => by
  have ih0 := catalog_Find.mono_l k
  ·intro y0 y1 y2 y3
   unfold catalog_Find.l0
   repeat' first
   | (with_reducible exact ih0 _ _ _ _)
   | (with_reducible exact LeO.refl _)
   | (with_reducible exact LeO.none _)
   | (with_reducible refine LeO.ite ?_ ?_)
   | (with_reducible refine LeO.bind ?_ (fun _ => ?_))
   | exact ih0 _ _ _ _
   | exact LeO.none _
   | refine LeO.ite ?_ ?_
   | refine LeO.bind ?_ (fun _ => ?_)
theorem catalog_Find.mono : ∀ a0 a1 k, LeO (catalog_Find.f k a0 a1) (catalog_Find.f (k + 1) a0 a1) := by
 intro a0 a1 k
 have ih0 := catalog_Find.mono_l k
 unfold catalog_Find.f
 repeat' first
   | (with_reducible exact ih0 _ _ _ _)
   | (with_reducible exact LeO.refl _)
   | (with_reducible exact LeO.none _)
   | (with_reducible refine LeO.ite ?_ ?_)
   | (with_reducible refine LeO.bind ?_ (fun _ => ?_))
   | exact ih0 _ _ _ _
   | exact LeO.none _
   | refine LeO.ite ?_ ?_
   | refine LeO.bind ?_ (fun _ => ?_)
set_option maxHeartbeats 8000000 in
set_option maxRecDepth 100000 in
theorem catalog_Find.calls (k : Nat) (A0 : Option Addr) (c0 : Nat) (l0 : List (S59)) (a1 : ByteArray) (r1 : ByteArray) (r2 : Int) (r3 : Int) (r4 : Int) (r5 : Bool) (w : World) (hr0 : Kd.C k59 w A0 l0.length l0) (hc0 : l0.length ≤ c0) (h : catalog_Find.f k l0 a1 = some (r1, r2, r3, r4, r5)) :
  Calls Try.prog 49 #[.slice A0 l0.length c0, .string a1] w fun e w' => e = .returned (.tuple #[.agg #[.string r1, .int .i64 r2, .int .i64 r3, .int .i64 r4], .bool r5]) ∧ Below w.heap.size w w' := by
 have hu59 := Try.underlying59
 have HR0 := Aside0.mk hr0
 have HC0 := Aside0.mk hc0
 clear hr0 hc0
 have HB := am (Below.refl w.heap.size w)
 have H : (catalog_Find.l0 k a1 l0 (l0.length : Int) 0) = some (r1, r2, r3, r4, r5) := h
 clear h
 have H' := Aside0.mk H
 clear H
 go_enter Try.func49, Try.ntmps49
 go_wp2_with (first | ((with_reducible refine gate_dst (N := 4) rfl ?_); refine box_event ?hg (N := 4) ?hd (cs := #[.string (⟨#[]⟩ : ByteArray), .int .i64 0, .int .i64 0, .int .i64 0]) (t := 59) ?hr ?_; (case hd => rfl); (case hg => rfl); (case hr => first | (go_simp; done) | (go_simp; rfl)); intro gb526 hg w3 hbox hb; have n0_ := am (below_step (zL HB.out) hb); have n1_ := am (hbox); have n2_ := am (zS hg HB.out); have n3_ := am (zS hg HB.out); clear HB; have HB := n0_; have BK526 := n1_; have GW526 := n2_; have GE526 := n3_; clear n0_ n1_ n2_ n3_; clear hb hbox hg))
 go_loopg [10] k (fun kq v10 w' => ∃ (x10_1 : Int) (x527000_1 : ByteArray) (x527001_1 : Int) (x527002_1 : Int) (x527003_1 : Int), v10 = .int .i64 x10_1 ∧ Aside0 (catalog_Find.l0 kq a1 l0 (l0.length : Int) x10_1 = some (r1, r2, r3, r4, r5)) ∧ Aside0 (kq ≤ k) ∧ Aside0 (w'.heap[gb526]? = some (.cells #[.string x527000_1, .int .i64 x527001_1, .int .i64 x527002_1, .int .i64 x527003_1] 59 (0, 0))) ∧ Aside0 (Below w.heap.size w w'))
 case atStart => exact ⟨(0), ((⟨#[]⟩ : ByteArray)), (0), (0), (0), (by first | rfl | (simp; done) | (simp [*]; done)), H', ⟨Nat.le_refl _⟩, ⟨by exact zB <| BK526.out⟩, ⟨by repeat (first | (with_reducible first | exact HB.out | apply ba | apply bd | apply be | refine below_set ?_ GE526.out) | exact HB.out)⟩⟩
 case round =>
  clear H'
  try clear p2
  obtain ⟨x10_1, x527000_1, x527001_1, x527002_1, x527003_1, rfl, HA, HK1, BK526, HB⟩ := hrel
  cases gk with
  | zero => exact absurd HA.out (by simp [catalog_Find.l0])
  | succ k1 =>
   have H := HA.out
   clear HA
   simp only [catalog_Find.l0] at H
   by_cases c4 : x10_1 < (l0.length : Int)
   ·rw [if_pos c4] at H
    have c4b0 : decide (x10_1 < (l0.length : Int)) = true := decide_eq_true c4
    clear c4
    by_cases c5 : 0 ≤ x10_1
    ·rw [if_pos c5] at H
     have c5b0 : decide (0 ≤ x10_1) = true := decide_eq_true c5
     clear c5
     by_cases c6 : x10_1 < (l0.length : Int)
     ·rw [if_pos c6] at H
      have c6b0 : decide (x10_1 < (l0.length : Int)) = true := decide_eq_true c6
      clear c6
      by_cases c7 : ((rd_T59 l0 x10_1).f0).toList = a1.toList
      ·rw [if_pos c7] at H
       have c7b0 : (((rd_T59 l0 x10_1).f0).toList == a1.toList) = true := beq_iff_eq.mpr c7
       have c7b1 : (((rd_T59 l0 x10_1).f0).toList != a1.toList) = false := bne_eq_false_iff_eq.mpr c7
       clear c7
       simp only [Option.some.injEq, Prod.mk.injEq] at H
       obtain ⟨rfl, rfl, rfl, rfl, rfl⟩ := H
       have p527 : 0 ≤ (x10_1 : Int) := of_decide_eq_true (by first | (with_reducible assumption) | assumption)
       have q527 : x10_1 < (l0.length : Int) := of_decide_eq_true (by first | (with_reducible assumption) | assumption)
       obtain ⟨ad527, e527, hx527_0, hx527_1, hx527_2, hx527_3⟩ := at_T59 HR0.out x10_1 p527 q527
       cases e527
       replace hx527_0 := (HB.out.cell (World.block_lt_of_cell? w _ hx527_0)).trans hx527_0
       replace hx527_1 := (HB.out.cell (World.block_lt_of_cell? w _ hx527_1)).trans hx527_1
       replace hx527_2 := (HB.out.cell (World.block_lt_of_cell? w _ hx527_2)).trans hx527_2
       replace hx527_3 := (HB.out.cell (World.block_lt_of_cell? w _ hx527_3)).trans hx527_3
       replace p527 := eq_true p527
       replace q527 := eq_true q527
       go_wp2_with (first | ((with_reducible refine gate_dst (N := 7) rfl ?_); refine box_event ?hg (N := 7) ?hd (cs := #[.string (⟨#[]⟩ : ByteArray), .int .i64 0, .int .i64 0, .int .i64 0]) (t := 59) ?hr ?_; (case hd => rfl); (case hg => rfl); (case hr => first | (go_simp; done) | (go_simp; rfl)); intro gb528 hg w8 hbox hb; have n0_ := am (blk_below (zB BK526.out) hb); have n1_ := am (below_step (zL HB.out) hb); have n2_ := am (hbox); have n3_ := am (zS hg HB.out); have n4_ := am (zS hg HB.out); have n5_ := am (zN hg BK526.out); have n6_ := am (zM hg BK526.out); clear BK526 HB; have BK526 := n0_; have HB := n1_; have BK528 := n2_; have GW528 := n3_; have GE528 := n4_; have NB526_528 := n5_; have NB528_526 := n6_; clear n0_ n1_ n2_ n3_ n4_ n5_ n6_; clear hb hbox hg; have hnb9 := NB528_526.out; have hnc9 := NB526_528.out; obtain ⟨hcz10_0, hcz10_1, hcz10_2, hcz10_3, hfz10_0, hfz10_1, hfz10_2, hfz10_3⟩ := b4 BK528.out) | ((with_reducible refine gate_store (t := 59) (p := 7) rfl ?_); refine store_event (t := 59) (p := 7) (v := ?vo_w11) (w1 := ((((w8.setCell ⟨gb528, 0, none⟩ (.string ((rd_T59 l0 x10_1).f0))).setCell ⟨gb528, 1, none⟩ (.int .i64 ((rd_T59 l0 x10_1).f1))).setCell ⟨gb528, 2, none⟩ (.int .i64 ((rd_T59 l0 x10_1).f2))).setCell ⟨gb528, 3, none⟩ (.int .i64 ((rd_T59 l0 x10_1).f3)))) ?hg ?ho ?hn ?hr ?_; (case ho => rfl); (case hg => rfl); (case hn => rfl); (case hr => first | (go_simp; done) | (go_simp; rfl)); intro w11 hw; have n0_ : Aside0 (w11.heap[gb526]? = some (.cells #[.string x527000_1, .int .i64 x527001_1, .int .i64 x527002_1, .int .i64 x527003_1] 59 (0, 0))) := ⟨(by rw [hw]; exact (by refine blk_far ?_ NB526_528.out _; refine blk_far ?_ NB526_528.out _; refine blk_far ?_ NB526_528.out _; refine blk_far ?_ NB526_528.out _; exact zB <| BK526.out))⟩; have n1_ : Aside0 (w11.heap[gb528]? = some (.cells #[.string ((rd_T59 l0 x10_1).f0), .int .i64 ((rd_T59 l0 x10_1).f1), .int .i64 ((rd_T59 l0 x10_1).f2), .int .i64 ((rd_T59 l0 x10_1).f3)] 59 (0, 0))) := ⟨(by rw [hw]; exact (by refine blk_put (cs := #[.string ((rd_T59 l0 x10_1).f0), .int .i64 ((rd_T59 l0 x10_1).f1), .int .i64 ((rd_T59 l0 x10_1).f2), .int .i64 0]) ?_ 3 _ rfl; refine blk_put (cs := #[.string ((rd_T59 l0 x10_1).f0), .int .i64 ((rd_T59 l0 x10_1).f1), .int .i64 0, .int .i64 0]) ?_ 2 _ rfl; refine blk_put (cs := #[.string ((rd_T59 l0 x10_1).f0), .int .i64 0, .int .i64 0, .int .i64 0]) ?_ 1 _ rfl; refine blk_put (cs := #[.string (⟨#[]⟩ : ByteArray), .int .i64 0, .int .i64 0, .int .i64 0]) ?_ 0 _ rfl; exact zB <| BK528.out))⟩; have n2_ : Aside0 (Below w.heap.size w w11) := ⟨(by rw [hw]; exact (by repeat (first | (with_reducible first | exact HB.out | apply ba | apply bd | apply be | refine below_set ?_ GE526.out | refine below_set ?_ GE528.out) | exact HB.out)))⟩; clear hw BK526 BK528 HB; have BK526 := n0_; have BK528 := n1_; have HB := n2_; clear n0_ n1_ n2_; obtain ⟨hcz12_0, hcz12_1, hcz12_2, hcz12_3, hfz12_0, hfz12_1, hfz12_2, hfz12_3⟩ := b4 BK528.out; obtain ⟨hcz13_0, hcz13_1, hcz13_2, hcz13_3, hfz13_0, hfz13_1, hfz13_2, hfz13_3⟩ := b4 BK526.out) | ((with_reducible refine gate_store (t := 59) (p := 4) rfl ?_); refine store_event (t := 59) (p := 4) (v := ?vo_w14) (w1 := ((((w11.setCell ⟨gb526, 0, none⟩ (.string ((rd_T59 l0 x10_1).f0))).setCell ⟨gb526, 1, none⟩ (.int .i64 ((rd_T59 l0 x10_1).f1))).setCell ⟨gb526, 2, none⟩ (.int .i64 ((rd_T59 l0 x10_1).f2))).setCell ⟨gb526, 3, none⟩ (.int .i64 ((rd_T59 l0 x10_1).f3)))) ?hg ?ho ?hn ?hr ?_; (case ho => rfl); (case hg => rfl); (case hn => rfl); (case hr => first | (go_simp; done) | (go_simp; rfl)); intro w14 hw; have n0_ : Aside0 (w14.heap[gb526]? = some (.cells #[.string ((rd_T59 l0 x10_1).f0), .int .i64 ((rd_T59 l0 x10_1).f1), .int .i64 ((rd_T59 l0 x10_1).f2), .int .i64 ((rd_T59 l0 x10_1).f3)] 59 (0, 0))) := ⟨(by rw [hw]; exact (by refine blk_put (cs := #[.string ((rd_T59 l0 x10_1).f0), .int .i64 ((rd_T59 l0 x10_1).f1), .int .i64 ((rd_T59 l0 x10_1).f2), .int .i64 x527003_1]) ?_ 3 _ rfl; refine blk_put (cs := #[.string ((rd_T59 l0 x10_1).f0), .int .i64 ((rd_T59 l0 x10_1).f1), .int .i64 x527002_1, .int .i64 x527003_1]) ?_ 2 _ rfl; refine blk_put (cs := #[.string ((rd_T59 l0 x10_1).f0), .int .i64 x527001_1, .int .i64 x527002_1, .int .i64 x527003_1]) ?_ 1 _ rfl; refine blk_put (cs := #[.string x527000_1, .int .i64 x527001_1, .int .i64 x527002_1, .int .i64 x527003_1]) ?_ 0 _ rfl; exact zB <| BK526.out))⟩; have n1_ : Aside0 (w14.heap[gb528]? = some (.cells #[.string ((rd_T59 l0 x10_1).f0), .int .i64 ((rd_T59 l0 x10_1).f1), .int .i64 ((rd_T59 l0 x10_1).f2), .int .i64 ((rd_T59 l0 x10_1).f3)] 59 (0, 0))) := ⟨(by rw [hw]; exact (by refine blk_far ?_ NB528_526.out _; refine blk_far ?_ NB528_526.out _; refine blk_far ?_ NB528_526.out _; refine blk_far ?_ NB528_526.out _; exact zB <| BK528.out))⟩; have n2_ : Aside0 (Below w.heap.size w w14) := ⟨(by rw [hw]; exact (by repeat (first | (with_reducible first | exact HB.out | apply ba | apply bd | apply be | refine below_set ?_ GE526.out | refine below_set ?_ GE528.out) | exact HB.out)))⟩; clear hw BK526 BK528 HB; have BK526 := n0_; have BK528 := n1_; have HB := n2_; clear n0_ n1_ n2_))
       refine bodyPost_ret (results_ct rfl _ _ gb526 59 #[.string ((rd_T59 l0 x10_1).f0), .int .i64 ((rd_T59 l0 x10_1).f1), .int .i64 ((rd_T59 l0 x10_1).f2), .int .i64 ((rd_T59 l0 x10_1).f3)] (0, 0) _ rfl (zB BK526.out) Try.underlying59 rfl (by kernel_rfl)) rfl ?_
       exact ⟨by first | rfl | (simp [errW_none, errW_some] <;> rfl) | (simp [*, errW_none, errW_some] <;> rfl), by repeat (first | (with_reducible first | exact HB.out | apply ba | apply bd | apply be | refine below_set ?_ GE526.out | refine below_set ?_ GE528.out) | exact HB.out)⟩
      ·rw [if_neg c7] at H
       have c7b0 : (((rd_T59 l0 x10_1).f0).toList == a1.toList) = false := beq_eq_false_iff_ne.mpr c7
       have c7b1 : (((rd_T59 l0 x10_1).f0).toList != a1.toList) = true := bne_iff_ne.mpr c7
       have H' := Aside0.mk H
       clear H
       have p527 : 0 ≤ (x10_1 : Int) := of_decide_eq_true (by first | (with_reducible assumption) | assumption)
       have q527 : x10_1 < (l0.length : Int) := of_decide_eq_true (by first | (with_reducible assumption) | assumption)
       obtain ⟨ad527, e527, hx527_0, hx527_1, hx527_2, hx527_3⟩ := at_T59 HR0.out x10_1 p527 q527
       cases e527
       replace hx527_0 := (HB.out.cell (World.block_lt_of_cell? w _ hx527_0)).trans hx527_0
       replace hx527_1 := (HB.out.cell (World.block_lt_of_cell? w _ hx527_1)).trans hx527_1
       replace hx527_2 := (HB.out.cell (World.block_lt_of_cell? w _ hx527_2)).trans hx527_2
       replace hx527_3 := (HB.out.cell (World.block_lt_of_cell? w _ hx527_3)).trans hx527_3
       replace p527 := eq_true p527
       replace q527 := eq_true q527
       go_wp2_with (first | ((with_reducible refine gate_dst (N := 7) rfl ?_); refine box_event ?hg (N := 7) ?hd (cs := #[.string (⟨#[]⟩ : ByteArray), .int .i64 0, .int .i64 0, .int .i64 0]) (t := 59) ?hr ?_; (case hd => rfl); (case hg => rfl); (case hr => first | (go_simp; done) | (go_simp; rfl)); intro gb528 hg w15 hbox hb; have n0_ := am (blk_below (zB BK526.out) hb); have n1_ := am (below_step (zL HB.out) hb); have n2_ := am (hbox); have n3_ := am (zS hg HB.out); have n4_ := am (zS hg HB.out); have n5_ := am (zN hg BK526.out); have n6_ := am (zM hg BK526.out); clear BK526 HB; have BK526 := n0_; have HB := n1_; have BK528 := n2_; have GW528 := n3_; have GE528 := n4_; have NB526_528 := n5_; have NB528_526 := n6_; clear n0_ n1_ n2_ n3_ n4_ n5_ n6_; clear hb hbox hg; have hnb16 := NB528_526.out; have hnc16 := NB526_528.out; obtain ⟨hcz17_0, hcz17_1, hcz17_2, hcz17_3, hfz17_0, hfz17_1, hfz17_2, hfz17_3⟩ := b4 BK528.out) | ((with_reducible refine gate_store (t := 59) (p := 7) rfl ?_); refine store_event (t := 59) (p := 7) (v := ?vo_w18) (w1 := ((((w15.setCell ⟨gb528, 0, none⟩ (.string ((rd_T59 l0 x10_1).f0))).setCell ⟨gb528, 1, none⟩ (.int .i64 ((rd_T59 l0 x10_1).f1))).setCell ⟨gb528, 2, none⟩ (.int .i64 ((rd_T59 l0 x10_1).f2))).setCell ⟨gb528, 3, none⟩ (.int .i64 ((rd_T59 l0 x10_1).f3)))) ?hg ?ho ?hn ?hr ?_; (case ho => rfl); (case hg => rfl); (case hn => rfl); (case hr => first | (go_simp; done) | (go_simp; rfl)); intro w18 hw; have n0_ : Aside0 (w18.heap[gb526]? = some (.cells #[.string x527000_1, .int .i64 x527001_1, .int .i64 x527002_1, .int .i64 x527003_1] 59 (0, 0))) := ⟨(by rw [hw]; exact (by refine blk_far ?_ NB526_528.out _; refine blk_far ?_ NB526_528.out _; refine blk_far ?_ NB526_528.out _; refine blk_far ?_ NB526_528.out _; exact zB <| BK526.out))⟩; have n1_ : Aside0 (w18.heap[gb528]? = some (.cells #[.string ((rd_T59 l0 x10_1).f0), .int .i64 ((rd_T59 l0 x10_1).f1), .int .i64 ((rd_T59 l0 x10_1).f2), .int .i64 ((rd_T59 l0 x10_1).f3)] 59 (0, 0))) := ⟨(by rw [hw]; exact (by refine blk_put (cs := #[.string ((rd_T59 l0 x10_1).f0), .int .i64 ((rd_T59 l0 x10_1).f1), .int .i64 ((rd_T59 l0 x10_1).f2), .int .i64 0]) ?_ 3 _ rfl; refine blk_put (cs := #[.string ((rd_T59 l0 x10_1).f0), .int .i64 ((rd_T59 l0 x10_1).f1), .int .i64 0, .int .i64 0]) ?_ 2 _ rfl; refine blk_put (cs := #[.string ((rd_T59 l0 x10_1).f0), .int .i64 0, .int .i64 0, .int .i64 0]) ?_ 1 _ rfl; refine blk_put (cs := #[.string (⟨#[]⟩ : ByteArray), .int .i64 0, .int .i64 0, .int .i64 0]) ?_ 0 _ rfl; exact zB <| BK528.out))⟩; have n2_ : Aside0 (Below w.heap.size w w18) := ⟨(by rw [hw]; exact (by repeat (first | (with_reducible first | exact HB.out | apply ba | apply bd | apply be | refine below_set ?_ GE526.out | refine below_set ?_ GE528.out) | exact HB.out)))⟩; clear hw BK526 BK528 HB; have BK526 := n0_; have BK528 := n1_; have HB := n2_; clear n0_ n1_ n2_; obtain ⟨hcz19_0, hcz19_1, hcz19_2, hcz19_3, hfz19_0, hfz19_1, hfz19_2, hfz19_3⟩ := b4 BK528.out))
       go_roundg k1
       case measure => have := HK1.out; omega
       case rel => exact ⟨(wrap64 (x10_1 + 1)), (x527000_1), (x527001_1), (x527002_1), (x527003_1), (by first | rfl | (simp; done) | (simp [*]; done)), H', ⟨by have := HK1.out; omega⟩, ⟨by exact zB <| BK526.out⟩, ⟨by repeat (first | (with_reducible first | exact HB.out | apply ba | apply bd | apply be | refine below_set ?_ GE526.out | refine below_set ?_ GE528.out) | exact HB.out)⟩⟩
     ·rw [if_neg c6] at H
      exact absurd H (by simp)
    ·rw [if_neg c5] at H
     exact absurd H (by simp)
   ·rw [if_neg c4] at H
    have c4b0 : decide (x10_1 < (l0.length : Int)) = false := decide_eq_false c4
    clear c4
    simp only [Option.some.injEq, Prod.mk.injEq] at H
    obtain ⟨rfl, rfl, rfl, rfl, rfl⟩ := H
    obtain ⟨hcz20_0, hcz20_1, hcz20_2, hcz20_3, hfz20_0, hfz20_1, hfz20_2, hfz20_3⟩ := b4 BK526.out
    go_wp2_with (first | ((with_reducible refine gate_store (t := 59) (p := 4) rfl ?_); refine store_event (t := 59) (p := 4) (v := ?vo_w21) (w1 := ((((wr.setCell ⟨gb526, 0, none⟩ (.string (⟨#[]⟩ : ByteArray))).setCell ⟨gb526, 1, none⟩ (.int .i64 0)).setCell ⟨gb526, 2, none⟩ (.int .i64 0)).setCell ⟨gb526, 3, none⟩ (.int .i64 0))) ?hg ?ho ?hn ?hr ?_; (case ho => rfl); (case hg => rfl); (case hn => rfl); (case hr => first | (go_simp; done) | (go_simp; rfl)); intro w21 hw; have n0_ : Aside0 (w21.heap[gb526]? = some (.cells #[.string (⟨#[]⟩ : ByteArray), .int .i64 0, .int .i64 0, .int .i64 0] 59 (0, 0))) := ⟨(by rw [hw]; exact (by refine blk_put (cs := #[.string (⟨#[]⟩ : ByteArray), .int .i64 0, .int .i64 0, .int .i64 x527003_1]) ?_ 3 _ rfl; refine blk_put (cs := #[.string (⟨#[]⟩ : ByteArray), .int .i64 0, .int .i64 x527002_1, .int .i64 x527003_1]) ?_ 2 _ rfl; refine blk_put (cs := #[.string (⟨#[]⟩ : ByteArray), .int .i64 x527001_1, .int .i64 x527002_1, .int .i64 x527003_1]) ?_ 1 _ rfl; refine blk_put (cs := #[.string x527000_1, .int .i64 x527001_1, .int .i64 x527002_1, .int .i64 x527003_1]) ?_ 0 _ rfl; exact zB <| BK526.out))⟩; have n1_ : Aside0 (Below w.heap.size w w21) := ⟨(by rw [hw]; exact (by repeat (first | (with_reducible first | exact HB.out | apply ba | apply bd | apply be | refine below_set ?_ GE526.out) | exact HB.out)))⟩; clear hw BK526 HB; have BK526 := n0_; have HB := n1_; clear n0_ n1_))
    refine bodyPost_ret (results_ct rfl _ _ gb526 59 #[.string (⟨#[]⟩ : ByteArray), .int .i64 0, .int .i64 0, .int .i64 0] (0, 0) _ rfl (zB BK526.out) Try.underlying59 rfl (by kernel_rfl)) rfl ?_
    exact ⟨by first | rfl | (simp [errW_none, errW_some] <;> rfl) | (simp [*, errW_none, errW_some] <;> rfl), by repeat (first | (with_reducible first | exact HB.out | apply ba | apply bd | apply be | refine below_set ?_ GE526.out) | exact HB.out)⟩

/-! ### catalog_Resolve: function 38 -/
def catalog_Resolve.f (k : Nat) (l0 : List (S59)) (a1_0 : ByteArray) (a1_1 : Int) (a1_2 : Int) : Option (Int) := (catalog_Valid.f k l0).bind fun t530 => (if t530 = true then ((catalog_Find.f k l0 a1_0).bind fun bt531 => (if bt531.2.2.2.2 = true then ((amount_Fits.f bt531.1 bt531.2.1 bt531.2.2.1 bt531.2.2.2.1 a1_1 a1_2).bind fun t537 => (if t537 = true then (some 0) else (some 12))) else (some 10))) else (some 2))
theorem catalog_Resolve.mono : ∀ a0 a1 a2 a3 k, LeO (catalog_Resolve.f k a0 a1 a2 a3) (catalog_Resolve.f (k + 1) a0 a1 a2 a3) := by
 intro a0 a1 a2 a3 k
 unfold catalog_Resolve.f
 repeat' first
   | (with_reducible exact catalog_Find.mono _ _ _)
   | (with_reducible exact catalog_Valid.mono _ _)
   | (with_reducible exact LeO.refl _)
   | (with_reducible exact LeO.none _)
   | (with_reducible refine LeO.ite ?_ ?_)
   | (with_reducible refine LeO.bind ?_ (fun _ => ?_))
   | exact catalog_Find.mono _ _ _
   | exact catalog_Valid.mono _ _
   | exact LeO.none _
   | refine LeO.ite ?_ ?_
   | refine LeO.bind ?_ (fun _ => ?_)
set_option maxHeartbeats 8000000 in
set_option maxRecDepth 100000 in
theorem catalog_Resolve.calls (k : Nat) (A0 : Option Addr) (c0 : Nat) (l0 : List (S59)) (a1_0 : ByteArray) (a1_1 : Int) (a1_2 : Int) (r : Int) (w : World) (hr0 : Kd.C k59 w A0 l0.length l0) (hc0 : l0.length ≤ c0) (h : catalog_Resolve.f k l0 a1_0 a1_1 a1_2 = some r) :
  Calls Try.prog 38 #[.slice A0 l0.length c0, .agg #[.string a1_0, .int .i64 a1_1, .int .i64 a1_2]] w fun e w' => e = .returned (.int .i64 r) ∧ Below w.heap.size w w' := by
 have hu25 := Try.underlying25
 have hu59 := Try.underlying59
 have hu23 := Try.underlying23
 have HR0 := Aside0.mk hr0
 have HC0 := Aside0.mk hc0
 clear hr0 hc0
 have HB := am (Below.refl w.heap.size w)
 have H : ((catalog_Valid.f k l0).bind fun t530 => (if t530 = true then ((catalog_Find.f k l0 a1_0).bind fun bt531 => (if bt531.2.2.2.2 = true then ((amount_Fits.f bt531.1 bt531.2.1 bt531.2.2.1 bt531.2.2.2.1 a1_1 a1_2).bind fun t537 => (if t537 = true then (some 0) else (some 12))) else (some 10))) else (some 2))) = some r := h
 clear h
 replace H := Option.bind_eq_some_iff.mp H
 obtain ⟨t530, A30, H⟩ := H
 replace H : (if t530 = true then ((catalog_Find.f k l0 a1_0).bind fun bt531 => (if bt531.2.2.2.2 = true then ((amount_Fits.f bt531.1 bt531.2.1 bt531.2.2.1 bt531.2.2.2.1 a1_1 a1_2).bind fun t537 => (if t537 = true then (some 0) else (some 12))) else (some 10))) else (some 2)) = some r := H
 have A3 := Aside0.mk A30
 clear A30
 by_cases c4 : t530 = true
 ·subst c4
  have H1 : ((catalog_Find.f k l0 a1_0).bind fun bt531 => (if bt531.2.2.2.2 = true then ((amount_Fits.f bt531.1 bt531.2.1 bt531.2.2.1 bt531.2.2.2.1 a1_1 a1_2).bind fun t537 => (if t537 = true then (some 0) else (some 12))) else (some 10))) = some r := by rw [if_pos rfl] at H; exact H
  clear H
  have H := H1
  clear H1
  replace H := Option.bind_eq_some_iff.mp H
  obtain ⟨⟨t531, t532, t533, t534, t535⟩, A50, H⟩ := H
  replace H : (if t535 = true then ((amount_Fits.f t531 t532 t533 t534 a1_1 a1_2).bind fun t537 => (if t537 = true then (some 0) else (some 12))) else (some 10)) = some r := H
  have A5 := Aside0.mk A50
  clear A50
  by_cases c6 : t535 = true
  ·subst c6
   have H1 : ((amount_Fits.f t531 t532 t533 t534 a1_1 a1_2).bind fun t537 => (if t537 = true then (some 0) else (some 12))) = some r := by rw [if_pos rfl] at H; exact H
   clear H
   have H := H1
   clear H1
   replace H := Option.bind_eq_some_iff.mp H
   obtain ⟨t537, A70, H⟩ := H
   replace H : (if t537 = true then (some 0) else (some 12)) = some r := H
   have A7 := Aside0.mk A70
   clear A70
   by_cases c8 : t537 = true
   ·subst c8
    have H1 : (some 0) = some r := by rw [if_pos rfl] at H; exact H
    clear H
    have H := H1
    clear H1
    obtain rfl := Option.some.inj H
    go_enter Try.func38, Try.ntmps38
    go_wp2_with (first | ((with_reducible refine gate_dst (N := 3) rfl ?_); refine box_event ?hg (N := 3) ?hd (cs := #[.string a1_0, .int .i64 a1_1, .int .i64 a1_2]) (t := 25) ?hr ?_; (case hd => rfl); (case hg => rfl); (case hr => first | (go_simp; done) | (go_simp; rfl)); intro gb529 hg w9 hbox hb; have n0_ := am (below_step (zL HB.out) hb); have n1_ := am (hbox); have n2_ := am (zS hg HB.out); have n3_ := am (zS hg HB.out); clear HB; have HB := n0_; have BK529 := n1_; have GW529 := n2_; have GE529 := n3_; clear n0_ n1_ n2_ n3_; clear hb hbox hg) | ((with_reducible refine gate_callee (f := 48) rfl ?_); refine goesL_ (some 8) rfl rfl Try.func48 (by kernel_rfl) rfl #[.slice A0 l0.length c0] rfl mp1 ?_; (with_reducible refine (catalog_Valid.calls k _ _ l0 true _ ?side1 ?side2 A3.out).mono ?_); (case side1 => exact zC (Kd.C_below HR0.out HB.out)); (case side2 => exact HC0.out); rintro e w10 ⟨rfl, hb⟩; refine ⟨_, rfl, ?_⟩; have n0_ := am (blk_below (zB BK529.out) hb); have n1_ := am (below_step (zL HB.out) hb); clear BK529 HB; have BK529 := n0_; have HB := n1_; clear n0_ n1_; (try clear hb); (try clear hb2); (try clear hk); (try clear hi); obtain ⟨hcz11_0, hcz11_1, hcz11_2, hfz11_0, hfz11_1, hfz11_2⟩ := b3 BK529.out) | ((with_reducible refine gate_callee (f := 49) rfl ?_); refine goesL_ (some 14) rfl rfl Try.func49 (by kernel_rfl) rfl #[.slice A0 l0.length c0, .string a1_0] rfl mp2 ?_; (with_reducible refine (catalog_Find.calls k _ _ l0 a1_0 t531 t532 t533 t534 true _ ?side1 ?side2 A5.out).mono ?_); (case side1 => exact zC (Kd.C_below HR0.out HB.out)); (case side2 => exact HC0.out); rintro e w12 ⟨rfl, hb⟩; refine ⟨_, rfl, ?_⟩; have n0_ := am (blk_below (zB BK529.out) hb); have n1_ := am (below_step (zL HB.out) hb); clear BK529 HB; have BK529 := n0_; have HB := n1_; clear n0_ n1_; (try clear hb); (try clear hb2); (try clear hk); (try clear hi)) | ((with_reducible refine gate_dst (N := 5) rfl ?_); refine box_event ?hg (N := 5) ?hd (cs := #[.string (⟨#[]⟩ : ByteArray), .int .i64 0, .int .i64 0, .int .i64 0]) (t := 59) ?hr ?_; (case hd => rfl); (case hg => rfl); (case hr => first | (go_simp; done) | (go_simp; rfl)); intro gb536 hg w13 hbox hb; have n0_ := am (blk_below (zB BK529.out) hb); have n1_ := am (below_step (zL HB.out) hb); have n2_ := am (hbox); have n3_ := am (zS hg HB.out); have n4_ := am (zS hg HB.out); have n5_ := am (zN hg BK529.out); have n6_ := am (zM hg BK529.out); clear BK529 HB; have BK529 := n0_; have HB := n1_; have BK536 := n2_; have GW536 := n3_; have GE536 := n4_; have NB529_536 := n5_; have NB536_529 := n6_; clear n0_ n1_ n2_ n3_ n4_ n5_ n6_; clear hb hbox hg; have hnb14 := NB536_529.out; have hnc14 := NB529_536.out; obtain ⟨hcz15_0, hcz15_1, hcz15_2, hcz15_3, hfz15_0, hfz15_1, hfz15_2, hfz15_3⟩ := b4 BK536.out) | ((with_reducible refine gate_store (t := 59) (p := 5) rfl ?_); refine store_event (t := 59) (p := 5) (v := ?vo_w16) (w1 := ((((w13.setCell ⟨gb536, 0, none⟩ (.string t531)).setCell ⟨gb536, 1, none⟩ (.int .i64 t532)).setCell ⟨gb536, 2, none⟩ (.int .i64 t533)).setCell ⟨gb536, 3, none⟩ (.int .i64 t534))) ?hg ?ho ?hn ?hr ?_; (case ho => rfl); (case hg => rfl); (case hn => rfl); (case hr => first | (go_simp; done) | (go_simp; rfl)); intro w16 hw; have n0_ : Aside0 (w16.heap[gb529]? = some (.cells #[.string a1_0, .int .i64 a1_1, .int .i64 a1_2] 25 (0, 0))) := ⟨(by rw [hw]; exact (by refine blk_far ?_ NB529_536.out _; refine blk_far ?_ NB529_536.out _; refine blk_far ?_ NB529_536.out _; refine blk_far ?_ NB529_536.out _; exact zB <| BK529.out))⟩; have n1_ : Aside0 (w16.heap[gb536]? = some (.cells #[.string t531, .int .i64 t532, .int .i64 t533, .int .i64 t534] 59 (0, 0))) := ⟨(by rw [hw]; exact (by refine blk_put (cs := #[.string t531, .int .i64 t532, .int .i64 t533, .int .i64 0]) ?_ 3 _ rfl; refine blk_put (cs := #[.string t531, .int .i64 t532, .int .i64 0, .int .i64 0]) ?_ 2 _ rfl; refine blk_put (cs := #[.string t531, .int .i64 0, .int .i64 0, .int .i64 0]) ?_ 1 _ rfl; refine blk_put (cs := #[.string (⟨#[]⟩ : ByteArray), .int .i64 0, .int .i64 0, .int .i64 0]) ?_ 0 _ rfl; exact zB <| BK536.out))⟩; have n2_ : Aside0 (Below w.heap.size w w16) := ⟨(by rw [hw]; exact (by repeat (first | (with_reducible first | exact HB.out | apply ba | apply bd | apply be | refine below_set ?_ GE529.out | refine below_set ?_ GE536.out) | exact HB.out)))⟩; clear hw BK529 BK536 HB; have BK529 := n0_; have BK536 := n1_; have HB := n2_; clear n0_ n1_ n2_; obtain ⟨hcz17_0, hcz17_1, hcz17_2, hcz17_3, hfz17_0, hfz17_1, hfz17_2, hfz17_3⟩ := b4 BK536.out; obtain ⟨hcz18_0, hcz18_1, hcz18_2, hfz18_0, hfz18_1, hfz18_2⟩ := b3 BK529.out) | ((with_reducible refine gate_callee (f := 50) rfl ?_); refine goesL_ (some 22) rfl rfl Try.func50 (by kernel_rfl) rfl #[.agg #[.string t531, .int .i64 t532, .int .i64 t533, .int .i64 t534], .agg #[.int .i64 a1_1, .int .i64 a1_2]] rfl mp2 ?_; (with_reducible refine (amount_Fits.calls t531 t532 t533 t534 a1_1 a1_2 true _ A7.out).mono ?_); rintro e w19 ⟨rfl, hb⟩; refine ⟨_, rfl, ?_⟩; have n0_ := am (blk_below (zB BK529.out) hb); have n1_ := am (blk_below (zB BK536.out) hb); have n2_ := am (below_step (zL HB.out) hb); clear BK529 BK536 HB; have BK529 := n0_; have BK536 := n1_; have HB := n2_; clear n0_ n1_ n2_; (try clear hb); (try clear hb2); (try clear hk); (try clear hi)))
    go_ret
    exact ⟨by first | rfl | (simp [errW_none, errW_some] <;> rfl) | (simp [*, errW_none, errW_some] <;> rfl), by repeat (first | (with_reducible first | exact HB.out | apply ba | apply bd | apply be | refine below_set ?_ GE529.out | refine below_set ?_ GE536.out) | exact HB.out)⟩
   ·replace c8 := Bool.eq_false_iff.mpr c8
    subst c8
    have H1 : (some 12) = some r := by rw [if_neg (show ¬ (false = true) by decide)] at H; exact H
    clear H
    have H := H1
    clear H1
    obtain rfl := Option.some.inj H
    go_enter Try.func38, Try.ntmps38
    go_wp2_with (first | ((with_reducible refine gate_dst (N := 3) rfl ?_); refine box_event ?hg (N := 3) ?hd (cs := #[.string a1_0, .int .i64 a1_1, .int .i64 a1_2]) (t := 25) ?hr ?_; (case hd => rfl); (case hg => rfl); (case hr => first | (go_simp; done) | (go_simp; rfl)); intro gb529 hg w20 hbox hb; have n0_ := am (below_step (zL HB.out) hb); have n1_ := am (hbox); have n2_ := am (zS hg HB.out); have n3_ := am (zS hg HB.out); clear HB; have HB := n0_; have BK529 := n1_; have GW529 := n2_; have GE529 := n3_; clear n0_ n1_ n2_ n3_; clear hb hbox hg) | ((with_reducible refine gate_callee (f := 48) rfl ?_); refine goesL_ (some 8) rfl rfl Try.func48 (by kernel_rfl) rfl #[.slice A0 l0.length c0] rfl mp1 ?_; (with_reducible refine (catalog_Valid.calls k _ _ l0 true _ ?side1 ?side2 A3.out).mono ?_); (case side1 => exact zC (Kd.C_below HR0.out HB.out)); (case side2 => exact HC0.out); rintro e w21 ⟨rfl, hb⟩; refine ⟨_, rfl, ?_⟩; have n0_ := am (blk_below (zB BK529.out) hb); have n1_ := am (below_step (zL HB.out) hb); clear BK529 HB; have BK529 := n0_; have HB := n1_; clear n0_ n1_; (try clear hb); (try clear hb2); (try clear hk); (try clear hi); obtain ⟨hcz22_0, hcz22_1, hcz22_2, hfz22_0, hfz22_1, hfz22_2⟩ := b3 BK529.out) | ((with_reducible refine gate_callee (f := 49) rfl ?_); refine goesL_ (some 14) rfl rfl Try.func49 (by kernel_rfl) rfl #[.slice A0 l0.length c0, .string a1_0] rfl mp2 ?_; (with_reducible refine (catalog_Find.calls k _ _ l0 a1_0 t531 t532 t533 t534 true _ ?side1 ?side2 A5.out).mono ?_); (case side1 => exact zC (Kd.C_below HR0.out HB.out)); (case side2 => exact HC0.out); rintro e w23 ⟨rfl, hb⟩; refine ⟨_, rfl, ?_⟩; have n0_ := am (blk_below (zB BK529.out) hb); have n1_ := am (below_step (zL HB.out) hb); clear BK529 HB; have BK529 := n0_; have HB := n1_; clear n0_ n1_; (try clear hb); (try clear hb2); (try clear hk); (try clear hi)) | ((with_reducible refine gate_dst (N := 5) rfl ?_); refine box_event ?hg (N := 5) ?hd (cs := #[.string (⟨#[]⟩ : ByteArray), .int .i64 0, .int .i64 0, .int .i64 0]) (t := 59) ?hr ?_; (case hd => rfl); (case hg => rfl); (case hr => first | (go_simp; done) | (go_simp; rfl)); intro gb536 hg w24 hbox hb; have n0_ := am (blk_below (zB BK529.out) hb); have n1_ := am (below_step (zL HB.out) hb); have n2_ := am (hbox); have n3_ := am (zS hg HB.out); have n4_ := am (zS hg HB.out); have n5_ := am (zN hg BK529.out); have n6_ := am (zM hg BK529.out); clear BK529 HB; have BK529 := n0_; have HB := n1_; have BK536 := n2_; have GW536 := n3_; have GE536 := n4_; have NB529_536 := n5_; have NB536_529 := n6_; clear n0_ n1_ n2_ n3_ n4_ n5_ n6_; clear hb hbox hg; have hnb25 := NB536_529.out; have hnc25 := NB529_536.out; obtain ⟨hcz26_0, hcz26_1, hcz26_2, hcz26_3, hfz26_0, hfz26_1, hfz26_2, hfz26_3⟩ := b4 BK536.out) | ((with_reducible refine gate_store (t := 59) (p := 5) rfl ?_); refine store_event (t := 59) (p := 5) (v := ?vo_w27) (w1 := ((((w24.setCell ⟨gb536, 0, none⟩ (.string t531)).setCell ⟨gb536, 1, none⟩ (.int .i64 t532)).setCell ⟨gb536, 2, none⟩ (.int .i64 t533)).setCell ⟨gb536, 3, none⟩ (.int .i64 t534))) ?hg ?ho ?hn ?hr ?_; (case ho => rfl); (case hg => rfl); (case hn => rfl); (case hr => first | (go_simp; done) | (go_simp; rfl)); intro w27 hw; have n0_ : Aside0 (w27.heap[gb529]? = some (.cells #[.string a1_0, .int .i64 a1_1, .int .i64 a1_2] 25 (0, 0))) := ⟨(by rw [hw]; exact (by refine blk_far ?_ NB529_536.out _; refine blk_far ?_ NB529_536.out _; refine blk_far ?_ NB529_536.out _; refine blk_far ?_ NB529_536.out _; exact zB <| BK529.out))⟩; have n1_ : Aside0 (w27.heap[gb536]? = some (.cells #[.string t531, .int .i64 t532, .int .i64 t533, .int .i64 t534] 59 (0, 0))) := ⟨(by rw [hw]; exact (by refine blk_put (cs := #[.string t531, .int .i64 t532, .int .i64 t533, .int .i64 0]) ?_ 3 _ rfl; refine blk_put (cs := #[.string t531, .int .i64 t532, .int .i64 0, .int .i64 0]) ?_ 2 _ rfl; refine blk_put (cs := #[.string t531, .int .i64 0, .int .i64 0, .int .i64 0]) ?_ 1 _ rfl; refine blk_put (cs := #[.string (⟨#[]⟩ : ByteArray), .int .i64 0, .int .i64 0, .int .i64 0]) ?_ 0 _ rfl; exact zB <| BK536.out))⟩; have n2_ : Aside0 (Below w.heap.size w w27) := ⟨(by rw [hw]; exact (by repeat (first | (with_reducible first | exact HB.out | apply ba | apply bd | apply be | refine below_set ?_ GE529.out | refine below_set ?_ GE536.out) | exact HB.out)))⟩; clear hw BK529 BK536 HB; have BK529 := n0_; have BK536 := n1_; have HB := n2_; clear n0_ n1_ n2_; obtain ⟨hcz28_0, hcz28_1, hcz28_2, hcz28_3, hfz28_0, hfz28_1, hfz28_2, hfz28_3⟩ := b4 BK536.out; obtain ⟨hcz29_0, hcz29_1, hcz29_2, hfz29_0, hfz29_1, hfz29_2⟩ := b3 BK529.out) | ((with_reducible refine gate_callee (f := 50) rfl ?_); refine goesL_ (some 22) rfl rfl Try.func50 (by kernel_rfl) rfl #[.agg #[.string t531, .int .i64 t532, .int .i64 t533, .int .i64 t534], .agg #[.int .i64 a1_1, .int .i64 a1_2]] rfl mp2 ?_; (with_reducible refine (amount_Fits.calls t531 t532 t533 t534 a1_1 a1_2 false _ A7.out).mono ?_); rintro e w30 ⟨rfl, hb⟩; refine ⟨_, rfl, ?_⟩; have n0_ := am (blk_below (zB BK529.out) hb); have n1_ := am (blk_below (zB BK536.out) hb); have n2_ := am (below_step (zL HB.out) hb); clear BK529 BK536 HB; have BK529 := n0_; have BK536 := n1_; have HB := n2_; clear n0_ n1_ n2_; (try clear hb); (try clear hb2); (try clear hk); (try clear hi)))
    go_ret
    exact ⟨by first | rfl | (simp [errW_none, errW_some] <;> rfl) | (simp [*, errW_none, errW_some] <;> rfl), by repeat (first | (with_reducible first | exact HB.out | apply ba | apply bd | apply be | refine below_set ?_ GE529.out | refine below_set ?_ GE536.out) | exact HB.out)⟩
  ·replace c6 := Bool.eq_false_iff.mpr c6
   subst c6
   have H1 : (some 10) = some r := by rw [if_neg (show ¬ (false = true) by decide)] at H; exact H
   clear H
   have H := H1
   clear H1
   obtain rfl := Option.some.inj H
   go_enter Try.func38, Try.ntmps38
   go_wp2_with (first | ((with_reducible refine gate_dst (N := 3) rfl ?_); refine box_event ?hg (N := 3) ?hd (cs := #[.string a1_0, .int .i64 a1_1, .int .i64 a1_2]) (t := 25) ?hr ?_; (case hd => rfl); (case hg => rfl); (case hr => first | (go_simp; done) | (go_simp; rfl)); intro gb529 hg w31 hbox hb; have n0_ := am (below_step (zL HB.out) hb); have n1_ := am (hbox); have n2_ := am (zS hg HB.out); have n3_ := am (zS hg HB.out); clear HB; have HB := n0_; have BK529 := n1_; have GW529 := n2_; have GE529 := n3_; clear n0_ n1_ n2_ n3_; clear hb hbox hg) | ((with_reducible refine gate_callee (f := 48) rfl ?_); refine goesL_ (some 8) rfl rfl Try.func48 (by kernel_rfl) rfl #[.slice A0 l0.length c0] rfl mp1 ?_; (with_reducible refine (catalog_Valid.calls k _ _ l0 true _ ?side1 ?side2 A3.out).mono ?_); (case side1 => exact zC (Kd.C_below HR0.out HB.out)); (case side2 => exact HC0.out); rintro e w32 ⟨rfl, hb⟩; refine ⟨_, rfl, ?_⟩; have n0_ := am (blk_below (zB BK529.out) hb); have n1_ := am (below_step (zL HB.out) hb); clear BK529 HB; have BK529 := n0_; have HB := n1_; clear n0_ n1_; (try clear hb); (try clear hb2); (try clear hk); (try clear hi); obtain ⟨hcz33_0, hcz33_1, hcz33_2, hfz33_0, hfz33_1, hfz33_2⟩ := b3 BK529.out) | ((with_reducible refine gate_callee (f := 49) rfl ?_); refine goesL_ (some 14) rfl rfl Try.func49 (by kernel_rfl) rfl #[.slice A0 l0.length c0, .string a1_0] rfl mp2 ?_; (with_reducible refine (catalog_Find.calls k _ _ l0 a1_0 t531 t532 t533 t534 false _ ?side1 ?side2 A5.out).mono ?_); (case side1 => exact zC (Kd.C_below HR0.out HB.out)); (case side2 => exact HC0.out); rintro e w34 ⟨rfl, hb⟩; refine ⟨_, rfl, ?_⟩; have n0_ := am (blk_below (zB BK529.out) hb); have n1_ := am (below_step (zL HB.out) hb); clear BK529 HB; have BK529 := n0_; have HB := n1_; clear n0_ n1_; (try clear hb); (try clear hb2); (try clear hk); (try clear hi)) | ((with_reducible refine gate_dst (N := 5) rfl ?_); refine box_event ?hg (N := 5) ?hd (cs := #[.string (⟨#[]⟩ : ByteArray), .int .i64 0, .int .i64 0, .int .i64 0]) (t := 59) ?hr ?_; (case hd => rfl); (case hg => rfl); (case hr => first | (go_simp; done) | (go_simp; rfl)); intro gb536 hg w35 hbox hb; have n0_ := am (blk_below (zB BK529.out) hb); have n1_ := am (below_step (zL HB.out) hb); have n2_ := am (hbox); have n3_ := am (zS hg HB.out); have n4_ := am (zS hg HB.out); have n5_ := am (zN hg BK529.out); have n6_ := am (zM hg BK529.out); clear BK529 HB; have BK529 := n0_; have HB := n1_; have BK536 := n2_; have GW536 := n3_; have GE536 := n4_; have NB529_536 := n5_; have NB536_529 := n6_; clear n0_ n1_ n2_ n3_ n4_ n5_ n6_; clear hb hbox hg; have hnb36 := NB536_529.out; have hnc36 := NB529_536.out; obtain ⟨hcz37_0, hcz37_1, hcz37_2, hcz37_3, hfz37_0, hfz37_1, hfz37_2, hfz37_3⟩ := b4 BK536.out) | ((with_reducible refine gate_store (t := 59) (p := 5) rfl ?_); refine store_event (t := 59) (p := 5) (v := ?vo_w38) (w1 := ((((w35.setCell ⟨gb536, 0, none⟩ (.string t531)).setCell ⟨gb536, 1, none⟩ (.int .i64 t532)).setCell ⟨gb536, 2, none⟩ (.int .i64 t533)).setCell ⟨gb536, 3, none⟩ (.int .i64 t534))) ?hg ?ho ?hn ?hr ?_; (case ho => rfl); (case hg => rfl); (case hn => rfl); (case hr => first | (go_simp; done) | (go_simp; rfl)); intro w38 hw; have n0_ : Aside0 (w38.heap[gb529]? = some (.cells #[.string a1_0, .int .i64 a1_1, .int .i64 a1_2] 25 (0, 0))) := ⟨(by rw [hw]; exact (by refine blk_far ?_ NB529_536.out _; refine blk_far ?_ NB529_536.out _; refine blk_far ?_ NB529_536.out _; refine blk_far ?_ NB529_536.out _; exact zB <| BK529.out))⟩; have n1_ : Aside0 (w38.heap[gb536]? = some (.cells #[.string t531, .int .i64 t532, .int .i64 t533, .int .i64 t534] 59 (0, 0))) := ⟨(by rw [hw]; exact (by refine blk_put (cs := #[.string t531, .int .i64 t532, .int .i64 t533, .int .i64 0]) ?_ 3 _ rfl; refine blk_put (cs := #[.string t531, .int .i64 t532, .int .i64 0, .int .i64 0]) ?_ 2 _ rfl; refine blk_put (cs := #[.string t531, .int .i64 0, .int .i64 0, .int .i64 0]) ?_ 1 _ rfl; refine blk_put (cs := #[.string (⟨#[]⟩ : ByteArray), .int .i64 0, .int .i64 0, .int .i64 0]) ?_ 0 _ rfl; exact zB <| BK536.out))⟩; have n2_ : Aside0 (Below w.heap.size w w38) := ⟨(by rw [hw]; exact (by repeat (first | (with_reducible first | exact HB.out | apply ba | apply bd | apply be | refine below_set ?_ GE529.out | refine below_set ?_ GE536.out) | exact HB.out)))⟩; clear hw BK529 BK536 HB; have BK529 := n0_; have BK536 := n1_; have HB := n2_; clear n0_ n1_ n2_))
   go_ret
   exact ⟨by first | rfl | (simp [errW_none, errW_some] <;> rfl) | (simp [*, errW_none, errW_some] <;> rfl), by repeat (first | (with_reducible first | exact HB.out | apply ba | apply bd | apply be | refine below_set ?_ GE529.out | refine below_set ?_ GE536.out) | exact HB.out)⟩
 ·replace c4 := Bool.eq_false_iff.mpr c4
  subst c4
  have H1 : (some 2) = some r := by rw [if_neg (show ¬ (false = true) by decide)] at H; exact H
  clear H
  have H := H1
  clear H1
  obtain rfl := Option.some.inj H
  go_enter Try.func38, Try.ntmps38
  go_wp2_with (first | ((with_reducible refine gate_dst (N := 3) rfl ?_); refine box_event ?hg (N := 3) ?hd (cs := #[.string a1_0, .int .i64 a1_1, .int .i64 a1_2]) (t := 25) ?hr ?_; (case hd => rfl); (case hg => rfl); (case hr => first | (go_simp; done) | (go_simp; rfl)); intro gb529 hg w39 hbox hb; have n0_ := am (below_step (zL HB.out) hb); have n1_ := am (hbox); have n2_ := am (zS hg HB.out); have n3_ := am (zS hg HB.out); clear HB; have HB := n0_; have BK529 := n1_; have GW529 := n2_; have GE529 := n3_; clear n0_ n1_ n2_ n3_; clear hb hbox hg) | ((with_reducible refine gate_callee (f := 48) rfl ?_); refine goesL_ (some 8) rfl rfl Try.func48 (by kernel_rfl) rfl #[.slice A0 l0.length c0] rfl mp1 ?_; (with_reducible refine (catalog_Valid.calls k _ _ l0 false _ ?side1 ?side2 A3.out).mono ?_); (case side1 => exact zC (Kd.C_below HR0.out HB.out)); (case side2 => exact HC0.out); rintro e w40 ⟨rfl, hb⟩; refine ⟨_, rfl, ?_⟩; have n0_ := am (blk_below (zB BK529.out) hb); have n1_ := am (below_step (zL HB.out) hb); clear BK529 HB; have BK529 := n0_; have HB := n1_; clear n0_ n1_; (try clear hb); (try clear hb2); (try clear hk); (try clear hi)))
  go_ret
  exact ⟨by first | rfl | (simp [errW_none, errW_some] <;> rfl) | (simp [*, errW_none, errW_some] <;> rfl), by repeat (first | (with_reducible first | exact HB.out | apply ba | apply bd | apply be | refine below_set ?_ GE529.out) | exact HB.out)⟩

/-! ### formula_Resolve: function 28 -/
def formula_Resolve.l0 : Nat → List (S59) → List (S25) → Int → Int → Option (Int)
 | 0, _, _, _, _ => none
 | k + 1, x0, x14, x15, x16 => if x16 < x15 then (if 0 ≤ x16 then (if x16 < (x14.length : Int) then ((catalog_Resolve.f k x0 ((rd_T25 x14 x16).f0) ((rd_T25 x14 x16).f1.f0) ((rd_T25 x14 x16).f1.f1)).bind fun t544 => (if t544 = 0 then (formula_Resolve.l0 k x0 x14 x15 (wrap64 (x16 + 1))) else (some t544))) else (none)) else (none)) else (some 0)
def formula_Resolve.f (k : Nat) (l0 : List (S59)) (a1_0 : Int) (a1_1 : ByteArray) (a1_2 : Int) (a1_3 : Int) (l1_4 : List (S28)) : Option (Int) := (formula_Atoms.f k a1_0 a1_1 a1_2 a1_3 l1_4).bind fun t539 => (if (t539.length : Int) = 0 then (some 1) else (formula_Resolve.l0 k l0 t539 (t539.length : Int) 0))
theorem formula_Resolve.mono_l : ∀ k, (∀ y0 y1 y2 y3, LeO (formula_Resolve.l0 k y0 y1 y2 y3) (formula_Resolve.l0 (k + 1) y0 y1 y2 y3))
 | 0 => fun _ _ _ _ r h => by simp [formula_Resolve.l0] at h
 | k + 1 => by
  have ih0 := formula_Resolve.mono_l k
  ·intro y0 y1 y2 y3
   unfold formula_Resolve.l0
   repeat' first
   | (with_reducible exact ih0 _ _ _ _)
   | (with_reducible exact catalog_Resolve.mono _ _ _ _ _)
   | (with_reducible exact formula_Atoms.mono _ _ _ _ _ _)
   | (with_reducible exact LeO.refl _)
   | (with_reducible exact LeO.none _)
   | (with_reducible refine LeO.ite ?_ ?_)
   | (with_reducible refine LeO.bind ?_ (fun _ => ?_))
   | exact ih0 _ _ _ _
   | exact catalog_Resolve.mono _ _ _ _ _
   | exact formula_Atoms.mono _ _ _ _ _ _
   | exact LeO.none _
   | refine LeO.ite ?_ ?_
   | refine LeO.bind ?_ (fun _ => ?_)
theorem formula_Resolve.mono : ∀ a0 a1 a2 a3 a4 a5 k, LeO (formula_Resolve.f k a0 a1 a2 a3 a4 a5) (formula_Resolve.f (k + 1) a0 a1 a2 a3 a4 a5) := by
 intro a0 a1 a2 a3 a4 a5 k
 have ih0 := formula_Resolve.mono_l k
 unfold formula_Resolve.f
 repeat' first
   | (with_reducible exact ih0 _ _ _ _)
   | (with_reducible exact catalog_Resolve.mono _ _ _ _ _)
   | (with_reducible exact formula_Atoms.mono _ _ _ _ _ _)
   | (with_reducible exact LeO.refl _)
   | (with_reducible exact LeO.none _)
   | (with_reducible refine LeO.ite ?_ ?_)
   | (with_reducible refine LeO.bind ?_ (fun _ => ?_))
   | exact ih0 _ _ _ _
   | exact catalog_Resolve.mono _ _ _ _ _
   | exact formula_Atoms.mono _ _ _ _ _ _
   | exact LeO.none _
   | refine LeO.ite ?_ ?_
   | refine LeO.bind ?_ (fun _ => ?_)
set_option maxHeartbeats 8000000 in
set_option maxRecDepth 100000 in
theorem formula_Resolve.calls (k : Nat) (A0 : Option Addr) (c0 : Nat) (l0 : List (S59)) (a1_0 : Int) (a1_1 : ByteArray) (a1_2 : Int) (a1_3 : Int) (A1_4 : Option Addr) (c1_4 : Nat) (l1_4 : List (S28)) (r : Int) (w : World) (hr0 : Kd.C k59 w A0 l0.length l0) (hc0 : l0.length ≤ c0) (hr1_4 : Kd.C k28 w A1_4 l1_4.length l1_4) (hc1_4 : l1_4.length ≤ c1_4) (h : formula_Resolve.f k l0 a1_0 a1_1 a1_2 a1_3 l1_4 = some r) :
  Calls Try.prog 28 #[.slice A0 l0.length c0, .agg #[.int .i64 a1_0, .string a1_1, .int .i64 a1_2, .int .i64 a1_3, .slice A1_4 l1_4.length c1_4]] w fun e w' => e = .returned (.int .i64 r) ∧ Below w.heap.size w w' := by
 have hu28 := Try.underlying28
 have hu25 := Try.underlying25
 have HR0 := Aside0.mk hr0
 have HC0 := Aside0.mk hc0
 clear hr0 hc0
 have HR1_4 := Aside0.mk hr1_4
 have HC1_4 := Aside0.mk hc1_4
 clear hr1_4 hc1_4
 have HB := am (Below.refl w.heap.size w)
 have H : ((formula_Atoms.f k a1_0 a1_1 a1_2 a1_3 l1_4).bind fun t539 => (if (t539.length : Int) = 0 then (some 1) else (formula_Resolve.l0 k l0 t539 (t539.length : Int) 0))) = some r := h
 clear h
 replace H := Option.bind_eq_some_iff.mp H
 obtain ⟨t539, A30, H⟩ := H
 replace H : (if (t539.length : Int) = 0 then (some 1) else (formula_Resolve.l0 k l0 t539 (t539.length : Int) 0)) = some r := H
 have A3 := Aside0.mk A30
 clear A30
 by_cases c4 : (t539.length : Int) = 0
 ·rw [if_pos c4] at H
  have c4b0 : ((t539.length : Int) == 0) = true := beq_iff_eq.mpr c4
  have c4b1 : ((t539.length : Int) != 0) = false := bne_eq_false_iff_eq.mpr c4
  clear c4
  obtain rfl := Option.some.inj H
  go_enter Try.func28, Try.ntmps28
  go_wp2_with (first | ((with_reducible refine gate_dst (N := 3) rfl ?_); refine box_event ?hg (N := 3) ?hd (cs := #[.int .i64 a1_0, .string a1_1, .int .i64 a1_2, .int .i64 a1_3, .slice A1_4 l1_4.length c1_4]) (t := 28) ?hr ?_; (case hd => rfl); (case hg => rfl); (case hr => first | (go_simp; done) | (go_simp; rfl)); intro gb538 hg w5 hbox hb; have n0_ := am (below_step (zL HB.out) hb); have n1_ := am (hbox); have n2_ := am (zS hg HB.out); have n3_ := am (zS hg HB.out); clear HB; have HB := n0_; have BK538 := n1_; have GW538 := n2_; have GE538 := n3_; clear n0_ n1_ n2_ n3_; clear hb hbox hg; obtain ⟨hcz6_0, hcz6_1, hcz6_2, hcz6_3, hcz6_4, hfz6_0, hfz6_1, hfz6_2, hfz6_3, hfz6_4⟩ := b5 BK538.out) | ((with_reducible refine gate_callee (f := 12) rfl ?_); refine goesL_ (some 10) rfl rfl Try.func12 (by kernel_rfl) rfl #[.agg #[.int .i64 a1_0, .string a1_1, .int .i64 a1_2, .int .i64 a1_3, .slice A1_4 l1_4.length c1_4]] rfl mp1 ?_; (with_reducible refine (formula_Atoms.calls k a1_0 a1_1 a1_2 a1_3 _ _ l1_4 t539 _ ?side1 ?side2 A3.out).mono ?_); (case side1 => exact zC (Kd.C_below HR1_4.out HB.out)); (case side2 => exact HC1_4.out); rintro e w7 ⟨v540, rfl, ho0, hb⟩; refine ⟨_, rfl, ?_⟩; have n0_ := am (Kd.R_lower ho0 (below_size (zL HB.out))); have n1_ := am (blk_below (zB BK538.out) hb); have n2_ := am (below_step (zL HB.out) hb); clear BK538 HB; have HO541 := n0_; have BK538 := n1_; have HB := n2_; clear n0_ n1_ n2_; (try clear hb); (try clear hb2); (try clear hk); (try clear hi); (try clear ho0); obtain ⟨Ao8, co8, eo8⟩ := Kd.R_slice HO541.out; subst eo8))
  go_ret
  exact ⟨by first | rfl | (simp [errW_none, errW_some] <;> rfl) | (simp [*, errW_none, errW_some] <;> rfl), by repeat (first | (with_reducible first | exact HB.out | apply ba | apply bd | apply be | refine below_set ?_ GE538.out) | exact HB.out)⟩
 ·rw [if_neg c4] at H
  have c4b0 : ((t539.length : Int) == 0) = false := beq_eq_false_iff_ne.mpr c4
  have c4b1 : ((t539.length : Int) != 0) = true := bne_iff_ne.mpr c4
  have c4b2 : ¬ (t539 = []) := fun h_ => c4 (by rw [h_]; rfl)
  have H' := Aside0.mk H
  clear H
  go_enter Try.func28, Try.ntmps28
  go_wp2_with (first | ((with_reducible refine gate_dst (N := 3) rfl ?_); refine box_event ?hg (N := 3) ?hd (cs := #[.int .i64 a1_0, .string a1_1, .int .i64 a1_2, .int .i64 a1_3, .slice A1_4 l1_4.length c1_4]) (t := 28) ?hr ?_; (case hd => rfl); (case hg => rfl); (case hr => first | (go_simp; done) | (go_simp; rfl)); intro gb538 hg w9 hbox hb; have n0_ := am (below_step (zL HB.out) hb); have n1_ := am (hbox); have n2_ := am (zS hg HB.out); have n3_ := am (zS hg HB.out); clear HB; have HB := n0_; have BK538 := n1_; have GW538 := n2_; have GE538 := n3_; clear n0_ n1_ n2_ n3_; clear hb hbox hg; obtain ⟨hcz10_0, hcz10_1, hcz10_2, hcz10_3, hcz10_4, hfz10_0, hfz10_1, hfz10_2, hfz10_3, hfz10_4⟩ := b5 BK538.out) | ((with_reducible refine gate_callee (f := 12) rfl ?_); refine goesL_ (some 10) rfl rfl Try.func12 (by kernel_rfl) rfl #[.agg #[.int .i64 a1_0, .string a1_1, .int .i64 a1_2, .int .i64 a1_3, .slice A1_4 l1_4.length c1_4]] rfl mp1 ?_; (with_reducible refine (formula_Atoms.calls k a1_0 a1_1 a1_2 a1_3 _ _ l1_4 t539 _ ?side1 ?side2 A3.out).mono ?_); (case side1 => exact zC (Kd.C_below HR1_4.out HB.out)); (case side2 => exact HC1_4.out); rintro e w11 ⟨v540, rfl, ho0, hb⟩; refine ⟨_, rfl, ?_⟩; have n0_ := am (Kd.R_lower ho0 (below_size (zL HB.out))); have n1_ := am (blk_below (zB BK538.out) hb); have n2_ := am (below_step (zL HB.out) hb); clear BK538 HB; have HO541 := n0_; have BK538 := n1_; have HB := n2_; clear n0_ n1_ n2_; (try clear hb); (try clear hb2); (try clear hk); (try clear hi); (try clear ho0); obtain ⟨Ao12, co12, eo12⟩ := Kd.R_slice HO541.out; subst eo12))
  go_loopg [16] k (fun kq v16 w' => ∃ (x16_1 : Int), v16 = .int .i64 x16_1 ∧ Aside0 (formula_Resolve.l0 kq l0 t539 (t539.length : Int) x16_1 = some r) ∧ Aside0 (kq ≤ k) ∧ Aside0 (Kd.R k25 25 w' w.heap.size (fun _ => True) (.slice Ao12 t539.length co12) t539) ∧ Aside0 (w'.heap[gb538]? = some (.cells #[.int .i64 a1_0, .string a1_1, .int .i64 a1_2, .int .i64 a1_3, (.slice A1_4 l1_4.length c1_4)] 28 (0, 0))) ∧ Aside0 (Below w.heap.size w w'))
  case atStart => exact ⟨(0), (by first | rfl | (simp; done) | (simp [*]; done)), H', ⟨Nat.le_refl _⟩, ⟨by exact zR HO541.out⟩, ⟨by exact zB <| BK538.out⟩, ⟨by repeat (first | (with_reducible first | exact HB.out | apply ba | apply bd | apply be | refine below_set ?_ GE538.out) | exact HB.out)⟩⟩
  case round =>
   clear H'
   try clear c1
   try clear c2
   try clear p2
   try clear c4
   try clear c4b0
   try clear c4b1
   try clear c4b2
   try clear c12
   try clear hcz10_0
   try clear hcz10_1
   try clear hcz10_2
   try clear hcz10_3
   try clear hcz10_4
   try clear hcz6_0
   try clear hcz6_1
   try clear hcz6_2
   try clear hcz6_3
   try clear hcz6_4
   try clear hfz10_0
   try clear hfz10_1
   try clear hfz10_2
   try clear hfz10_3
   try clear hfz10_4
   try clear hfz6_0
   try clear hfz6_1
   try clear hfz6_2
   try clear hfz6_3
   try clear hfz6_4
   obtain ⟨x16_1, rfl, HA, HK1, HO_14, BK538, HB⟩ := hrel
   cases gk with
   | zero => exact absurd HA.out (by simp [formula_Resolve.l0])
   | succ k1 =>
    have H := HA.out
    clear HA
    simp only [formula_Resolve.l0] at H
    by_cases c13 : x16_1 < (t539.length : Int)
    ·rw [if_pos c13] at H
     have c13b0 : decide (x16_1 < (t539.length : Int)) = true := decide_eq_true c13
     clear c13
     by_cases c14 : 0 ≤ x16_1
     ·rw [if_pos c14] at H
      have c14b0 : decide (0 ≤ x16_1) = true := decide_eq_true c14
      clear c14
      by_cases c15 : x16_1 < (t539.length : Int)
      ·rw [if_pos c15] at H
       have c15b0 : decide (x16_1 < (t539.length : Int)) = true := decide_eq_true c15
       clear c15
       replace H := Option.bind_eq_some_iff.mp H
       obtain ⟨t544, A160, H⟩ := H
       replace H : (if t544 = 0 then (formula_Resolve.l0 k1 l0 t539 (t539.length : Int) (wrap64 (x16_1 + 1))) else (some t544)) = some r := H
       have A16 := Aside0.mk A160
       clear A160
       by_cases c17 : t544 = 0
       ·rw [if_pos c17] at H
        have c17b0 : (t544 == 0) = true := beq_iff_eq.mpr c17
        have c17b1 : (t544 != 0) = false := bne_eq_false_iff_eq.mpr c17
        clear c17
        have H' := Aside0.mk H
        clear H
        have p542 : 0 ≤ (x16_1 : Int) := of_decide_eq_true (by first | (with_reducible assumption) | assumption)
        have q542 : x16_1 < (t539.length : Int) := of_decide_eq_true (by first | (with_reducible assumption) | assumption)
        obtain ⟨ad542, e542, hx542_0, hx542_1, hx542_2⟩ := at_T25 (Kd.R_reads' HO_14.out).2.2 x16_1 p542 q542
        cases e542
        replace p542 := eq_true p542
        replace q542 := eq_true q542
        go_wp2_with (first | ((with_reducible refine gate_dst (N := 7) rfl ?_); refine box_event ?hg (N := 7) ?hd (cs := #[.string (⟨#[]⟩ : ByteArray), .int .i64 0, .int .i64 0]) (t := 25) ?hr ?_; (case hd => rfl); (case hg => rfl); (case hr => first | (go_simp; done) | (go_simp; rfl)); intro gb543 hg w18 hbox hb; have n0_ := am (Kd.R_below (Kd.R_elderB (zR HO_14.out) gb543 (Nat.le_of_eq hg.symm)) hb); have n1_ := am (blk_below (zB BK538.out) hb); have n2_ := am (below_step (zL HB.out) hb); have n3_ := am (hbox); have n4_ := am (zS hg HB.out); have n5_ := am (zS hg HB.out); have n6_ := am (zN hg BK538.out); have n7_ := am (zM hg BK538.out); clear HO_14 BK538 HB; have HO_14 := n0_; have BK538 := n1_; have HB := n2_; have BK543 := n3_; have GW543 := n4_; have GE543 := n5_; have NB538_543 := n6_; have NB543_538 := n7_; clear n0_ n1_ n2_ n3_ n4_ n5_ n6_ n7_; clear hb hbox hg; have hnb19 := NB543_538.out; have hnc19 := NB538_543.out; obtain ⟨hcz20_0, hcz20_1, hcz20_2, hfz20_0, hfz20_1, hfz20_2⟩ := b3 BK543.out) | ((with_reducible refine gate_store (t := 25) (p := 7) rfl ?_); refine store_event (t := 25) (p := 7) (v := ?vo_w21) (w1 := (((w18.setCell ⟨gb543, 0, none⟩ (.string ((rd_T25 t539 x16_1).f0))).setCell ⟨gb543, 1, none⟩ (.int .i64 ((rd_T25 t539 x16_1).f1.f0))).setCell ⟨gb543, 2, none⟩ (.int .i64 ((rd_T25 t539 x16_1).f1.f1)))) ?hg ?ho ?hn ?hr ?_; (case ho => rfl); (case hg => rfl); (case hn => rfl); (case hr => first | (go_simp; done) | (go_simp; rfl)); intro w21 hw; have n0_ : Aside0 (Kd.R k25 25 w21 w.heap.size (fun k_ => k_ ≠ gb543) (.slice (some ad542) t539.length co12) t539) := ⟨(by rw [hw]; exact (by exact zR <| Kd.R_mono (Kd.R_far (p := ⟨gb543, 2, none⟩) (Kd.R_far (p := ⟨gb543, 1, none⟩) (Kd.R_far (p := ⟨gb543, 0, none⟩) (Kd.R_mono HO_14.out (fun k_ hk => (⟨hk, hk.2⟩ : _ ∧ k_ ≠ gb543))) (fun _ hk => hk.2) (.string ((rd_T25 t539 x16_1).f0))) (fun _ hk => hk.2) (.int .i64 ((rd_T25 t539 x16_1).f1.f0))) (fun _ hk => hk.2) (.int .i64 ((rd_T25 t539 x16_1).f1.f1))) (fun _ hk => hk.1.2)))⟩; have n1_ : Aside0 (w21.heap[gb538]? = some (.cells #[.int .i64 a1_0, .string a1_1, .int .i64 a1_2, .int .i64 a1_3, .slice A1_4 l1_4.length c1_4] 28 (0, 0))) := ⟨(by rw [hw]; exact (by refine blk_far ?_ NB538_543.out _; refine blk_far ?_ NB538_543.out _; refine blk_far ?_ NB538_543.out _; exact zB <| BK538.out))⟩; have n2_ : Aside0 (w21.heap[gb543]? = some (.cells #[.string ((rd_T25 t539 x16_1).f0), .int .i64 ((rd_T25 t539 x16_1).f1.f0), .int .i64 ((rd_T25 t539 x16_1).f1.f1)] 25 (0, 0))) := ⟨(by rw [hw]; exact (by refine blk_put (cs := #[.string ((rd_T25 t539 x16_1).f0), .int .i64 ((rd_T25 t539 x16_1).f1.f0), .int .i64 0]) ?_ 2 _ rfl; refine blk_put (cs := #[.string ((rd_T25 t539 x16_1).f0), .int .i64 0, .int .i64 0]) ?_ 1 _ rfl; refine blk_put (cs := #[.string (⟨#[]⟩ : ByteArray), .int .i64 0, .int .i64 0]) ?_ 0 _ rfl; exact zB <| BK543.out))⟩; have n3_ : Aside0 (Below w.heap.size w w21) := ⟨(by rw [hw]; exact (by repeat (first | (with_reducible first | exact HB.out | apply ba | apply bd | apply be | refine below_set ?_ GE538.out | refine below_set ?_ GE543.out) | exact HB.out)))⟩; clear hw HO_14 BK538 BK543 HB; have HO_14 := n0_; have BK538 := n1_; have BK543 := n2_; have HB := n3_; clear n0_ n1_ n2_ n3_; obtain ⟨hcz22_0, hcz22_1, hcz22_2, hfz22_0, hfz22_1, hfz22_2⟩ := b3 BK543.out) | ((with_reducible refine gate_callee (f := 38) rfl ?_); refine goesL_ (some 22) rfl rfl Try.func38 (by kernel_rfl) rfl #[.slice A0 l0.length c0, .agg #[.string ((rd_T25 t539 x16_1).f0), .int .i64 ((rd_T25 t539 x16_1).f1.f0), .int .i64 ((rd_T25 t539 x16_1).f1.f1)]] rfl mp2 ?_; (with_reducible refine (catalog_Resolve.calls k1 _ _ l0 ((rd_T25 t539 x16_1).f0) ((rd_T25 t539 x16_1).f1.f0) ((rd_T25 t539 x16_1).f1.f1) t544 _ ?side1 ?side2 A16.out).mono ?_); (case side1 => exact zC (Kd.C_below HR0.out HB.out)); (case side2 => exact HC0.out); rintro e w23 ⟨rfl, hb⟩; refine ⟨_, rfl, ?_⟩; have n0_ := am (Kd.R_below (zR HO_14.out) hb); have n1_ := am (blk_below (zB BK538.out) hb); have n2_ := am (blk_below (zB BK543.out) hb); have n3_ := am (below_step (zL HB.out) hb); clear HO_14 BK538 BK543 HB; have HO_14 := n0_; have BK538 := n1_; have BK543 := n2_; have HB := n3_; clear n0_ n1_ n2_ n3_; (try clear hb); (try clear hb2); (try clear hk); (try clear hi)))
        go_roundg k1
        case measure => have := HK1.out; omega
        case rel => exact ⟨(wrap64 (x16_1 + 1)), (by first | rfl | (simp; done) | (simp [*]; done)), H', ⟨by have := HK1.out; omega⟩, ⟨by exact zR <| Kd.R_mono HO_14.out (fun _ hk => trivial)⟩, ⟨by exact zB <| BK538.out⟩, ⟨by repeat (first | (with_reducible first | exact HB.out | apply ba | apply bd | apply be | refine below_set ?_ GE538.out | refine below_set ?_ GE543.out) | exact HB.out)⟩⟩
       ·rw [if_neg c17] at H
        have c17b0 : (t544 == 0) = false := beq_eq_false_iff_ne.mpr c17
        have c17b1 : (t544 != 0) = true := bne_iff_ne.mpr c17
        obtain rfl := Option.some.inj H
        have p542 : 0 ≤ (x16_1 : Int) := of_decide_eq_true (by first | (with_reducible assumption) | assumption)
        have q542 : x16_1 < (t539.length : Int) := of_decide_eq_true (by first | (with_reducible assumption) | assumption)
        obtain ⟨ad542, e542, hx542_0, hx542_1, hx542_2⟩ := at_T25 (Kd.R_reads' HO_14.out).2.2 x16_1 p542 q542
        cases e542
        replace p542 := eq_true p542
        replace q542 := eq_true q542
        go_wp2_with (first | ((with_reducible refine gate_dst (N := 7) rfl ?_); refine box_event ?hg (N := 7) ?hd (cs := #[.string (⟨#[]⟩ : ByteArray), .int .i64 0, .int .i64 0]) (t := 25) ?hr ?_; (case hd => rfl); (case hg => rfl); (case hr => first | (go_simp; done) | (go_simp; rfl)); intro gb543 hg w24 hbox hb; have n0_ := am (Kd.R_below (Kd.R_elderB (zR HO_14.out) gb543 (Nat.le_of_eq hg.symm)) hb); have n1_ := am (blk_below (zB BK538.out) hb); have n2_ := am (below_step (zL HB.out) hb); have n3_ := am (hbox); have n4_ := am (zS hg HB.out); have n5_ := am (zS hg HB.out); have n6_ := am (zN hg BK538.out); have n7_ := am (zM hg BK538.out); clear HO_14 BK538 HB; have HO_14 := n0_; have BK538 := n1_; have HB := n2_; have BK543 := n3_; have GW543 := n4_; have GE543 := n5_; have NB538_543 := n6_; have NB543_538 := n7_; clear n0_ n1_ n2_ n3_ n4_ n5_ n6_ n7_; clear hb hbox hg; have hnb25 := NB543_538.out; have hnc25 := NB538_543.out; obtain ⟨hcz26_0, hcz26_1, hcz26_2, hfz26_0, hfz26_1, hfz26_2⟩ := b3 BK543.out) | ((with_reducible refine gate_store (t := 25) (p := 7) rfl ?_); refine store_event (t := 25) (p := 7) (v := ?vo_w27) (w1 := (((w24.setCell ⟨gb543, 0, none⟩ (.string ((rd_T25 t539 x16_1).f0))).setCell ⟨gb543, 1, none⟩ (.int .i64 ((rd_T25 t539 x16_1).f1.f0))).setCell ⟨gb543, 2, none⟩ (.int .i64 ((rd_T25 t539 x16_1).f1.f1)))) ?hg ?ho ?hn ?hr ?_; (case ho => rfl); (case hg => rfl); (case hn => rfl); (case hr => first | (go_simp; done) | (go_simp; rfl)); intro w27 hw; have n0_ : Aside0 (Kd.R k25 25 w27 w.heap.size (fun k_ => k_ ≠ gb543) (.slice (some ad542) t539.length co12) t539) := ⟨(by rw [hw]; exact (by exact zR <| Kd.R_mono (Kd.R_far (p := ⟨gb543, 2, none⟩) (Kd.R_far (p := ⟨gb543, 1, none⟩) (Kd.R_far (p := ⟨gb543, 0, none⟩) (Kd.R_mono HO_14.out (fun k_ hk => (⟨hk, hk.2⟩ : _ ∧ k_ ≠ gb543))) (fun _ hk => hk.2) (.string ((rd_T25 t539 x16_1).f0))) (fun _ hk => hk.2) (.int .i64 ((rd_T25 t539 x16_1).f1.f0))) (fun _ hk => hk.2) (.int .i64 ((rd_T25 t539 x16_1).f1.f1))) (fun _ hk => hk.1.2)))⟩; have n1_ : Aside0 (w27.heap[gb538]? = some (.cells #[.int .i64 a1_0, .string a1_1, .int .i64 a1_2, .int .i64 a1_3, .slice A1_4 l1_4.length c1_4] 28 (0, 0))) := ⟨(by rw [hw]; exact (by refine blk_far ?_ NB538_543.out _; refine blk_far ?_ NB538_543.out _; refine blk_far ?_ NB538_543.out _; exact zB <| BK538.out))⟩; have n2_ : Aside0 (w27.heap[gb543]? = some (.cells #[.string ((rd_T25 t539 x16_1).f0), .int .i64 ((rd_T25 t539 x16_1).f1.f0), .int .i64 ((rd_T25 t539 x16_1).f1.f1)] 25 (0, 0))) := ⟨(by rw [hw]; exact (by refine blk_put (cs := #[.string ((rd_T25 t539 x16_1).f0), .int .i64 ((rd_T25 t539 x16_1).f1.f0), .int .i64 0]) ?_ 2 _ rfl; refine blk_put (cs := #[.string ((rd_T25 t539 x16_1).f0), .int .i64 0, .int .i64 0]) ?_ 1 _ rfl; refine blk_put (cs := #[.string (⟨#[]⟩ : ByteArray), .int .i64 0, .int .i64 0]) ?_ 0 _ rfl; exact zB <| BK543.out))⟩; have n3_ : Aside0 (Below w.heap.size w w27) := ⟨(by rw [hw]; exact (by repeat (first | (with_reducible first | exact HB.out | apply ba | apply bd | apply be | refine below_set ?_ GE538.out | refine below_set ?_ GE543.out) | exact HB.out)))⟩; clear hw HO_14 BK538 BK543 HB; have HO_14 := n0_; have BK538 := n1_; have BK543 := n2_; have HB := n3_; clear n0_ n1_ n2_ n3_; obtain ⟨hcz28_0, hcz28_1, hcz28_2, hfz28_0, hfz28_1, hfz28_2⟩ := b3 BK543.out) | ((with_reducible refine gate_callee (f := 38) rfl ?_); refine goesL_ (some 22) rfl rfl Try.func38 (by kernel_rfl) rfl #[.slice A0 l0.length c0, .agg #[.string ((rd_T25 t539 x16_1).f0), .int .i64 ((rd_T25 t539 x16_1).f1.f0), .int .i64 ((rd_T25 t539 x16_1).f1.f1)]] rfl mp2 ?_; (with_reducible refine (catalog_Resolve.calls k1 _ _ l0 ((rd_T25 t539 x16_1).f0) ((rd_T25 t539 x16_1).f1.f0) ((rd_T25 t539 x16_1).f1.f1) t544 _ ?side1 ?side2 A16.out).mono ?_); (case side1 => exact zC (Kd.C_below HR0.out HB.out)); (case side2 => exact HC0.out); rintro e w29 ⟨rfl, hb⟩; refine ⟨_, rfl, ?_⟩; have n0_ := am (Kd.R_below (zR HO_14.out) hb); have n1_ := am (blk_below (zB BK538.out) hb); have n2_ := am (blk_below (zB BK543.out) hb); have n3_ := am (below_step (zL HB.out) hb); clear HO_14 BK538 BK543 HB; have HO_14 := n0_; have BK538 := n1_; have BK543 := n2_; have HB := n3_; clear n0_ n1_ n2_ n3_; (try clear hb); (try clear hb2); (try clear hk); (try clear hi)))
        go_ret
        exact ⟨by first | rfl | (simp [errW_none, errW_some] <;> rfl) | (simp [*, errW_none, errW_some] <;> rfl), by repeat (first | (with_reducible first | exact HB.out | apply ba | apply bd | apply be | refine below_set ?_ GE538.out | refine below_set ?_ GE543.out) | exact HB.out)⟩
      ·rw [if_neg c15] at H
       exact absurd H (by simp)
     ·rw [if_neg c14] at H
      exact absurd H (by simp)
    ·rw [if_neg c13] at H
     have c13b0 : decide (x16_1 < (t539.length : Int)) = false := decide_eq_false c13
     clear c13
     obtain rfl := Option.some.inj H
     go_wp2
     go_ret
     exact ⟨by first | rfl | (simp [errW_none, errW_some] <;> rfl) | (simp [*, errW_none, errW_some] <;> rfl), by repeat (first | (with_reducible first | exact HB.out | apply ba | apply bd | apply be | refine below_set ?_ GE538.out) | exact HB.out)⟩

/-! ### clusterlocksref04_Shaped: function 64 -/
def clusterlocksref04_Shaped.f (a0_0 : ByteArray) (a0_1 : Int) (a0_2 : Int) (a0_3 : Int) : Option (Bool) := if a0_1 = 1 then (if a0_2 = 1 then (some true) else (if a0_1 = 2 then (if a0_2 ≥ 1 then (some (decide (a0_2 ≤ 8))) else (some false)) else (some false))) else (if a0_1 = 2 then (if a0_2 ≥ 1 then (some (decide (a0_2 ≤ 8))) else (some false)) else (some false))
set_option maxHeartbeats 8000000 in
set_option maxRecDepth 100000 in
theorem clusterlocksref04_Shaped.calls (a0_0 : ByteArray) (a0_1 : Int) (a0_2 : Int) (a0_3 : Int) (r : Bool) (w : World) (h : clusterlocksref04_Shaped.f a0_0 a0_1 a0_2 a0_3 = some r) :
  Calls Try.prog 64 #[.agg #[.string a0_0, .int .i64 a0_1, .int .i64 a0_2, .int .i64 a0_3]] w fun e w' => e = .returned (.bool r) ∧ Below w.heap.size w w' := by
 have hu59 := Try.underlying59
 have HB := am (Below.refl w.heap.size w)
 have H : (if a0_1 = 1 then (if a0_2 = 1 then (some true) else (if a0_1 = 2 then (if a0_2 ≥ 1 then (some (decide (a0_2 ≤ 8))) else (some false)) else (some false))) else (if a0_1 = 2 then (if a0_2 ≥ 1 then (some (decide (a0_2 ≤ 8))) else (some false)) else (some false))) = some r := h
 clear h
 by_cases c2 : a0_1 = 1
 ·rw [if_pos c2] at H
  have c2b0 : (a0_1 == 1) = true := beq_iff_eq.mpr c2
  have c2b1 : (a0_1 != 1) = false := bne_eq_false_iff_eq.mpr c2
  clear c2
  by_cases c3 : a0_2 = 1
  ·rw [if_pos c3] at H
   have c3b0 : (a0_2 == 1) = true := beq_iff_eq.mpr c3
   have c3b1 : (a0_2 != 1) = false := bne_eq_false_iff_eq.mpr c3
   clear c3
   obtain rfl := Option.some.inj H
   go_enter Try.func64, Try.ntmps64
   go_wp2_with (first | ((with_reducible refine gate_dst (N := 1) rfl ?_); refine box_event ?hg (N := 1) ?hd (cs := #[.string a0_0, .int .i64 a0_1, .int .i64 a0_2, .int .i64 a0_3]) (t := 59) ?hr ?_; (case hd => rfl); (case hg => rfl); (case hr => first | (go_simp; done) | (go_simp; rfl)); intro gb545 hg w4 hbox hb; have n0_ := am (below_step (zL HB.out) hb); have n1_ := am (hbox); have n2_ := am (zS hg HB.out); have n3_ := am (zS hg HB.out); clear HB; have HB := n0_; have BK545 := n1_; have GW545 := n2_; have GE545 := n3_; clear n0_ n1_ n2_ n3_; clear hb hbox hg; obtain ⟨hcz5_0, hcz5_1, hcz5_2, hcz5_3, hfz5_0, hfz5_1, hfz5_2, hfz5_3⟩ := b4 BK545.out))
   go_ret
   exact ⟨by first | rfl | (simp [errW_none, errW_some] <;> rfl) | (simp [*, errW_none, errW_some] <;> rfl), by repeat (first | (with_reducible first | exact HB.out | apply ba | apply bd | apply be | refine below_set ?_ GE545.out) | exact HB.out)⟩
  ·rw [if_neg c3] at H
   have c3b0 : (a0_2 == 1) = false := beq_eq_false_iff_ne.mpr c3
   have c3b1 : (a0_2 != 1) = true := bne_iff_ne.mpr c3
   by_cases c6 : a0_1 = 2
   ·rw [if_pos c6] at H
    have c6b0 : (a0_1 == 2) = true := beq_iff_eq.mpr c6
    have c6b1 : (a0_1 != 2) = false := bne_eq_false_iff_eq.mpr c6
    clear c6
    by_cases c7 : a0_2 ≥ 1
    ·rw [if_pos c7] at H
     have c7b0 : decide (1 ≤ a0_2) = true := decide_eq_true c7
     clear c7
     obtain rfl := Option.some.inj H
     go_enter Try.func64, Try.ntmps64
     go_wp2_with (first | ((with_reducible refine gate_dst (N := 1) rfl ?_); refine box_event ?hg (N := 1) ?hd (cs := #[.string a0_0, .int .i64 a0_1, .int .i64 a0_2, .int .i64 a0_3]) (t := 59) ?hr ?_; (case hd => rfl); (case hg => rfl); (case hr => first | (go_simp; done) | (go_simp; rfl)); intro gb545 hg w8 hbox hb; have n0_ := am (below_step (zL HB.out) hb); have n1_ := am (hbox); have n2_ := am (zS hg HB.out); have n3_ := am (zS hg HB.out); clear HB; have HB := n0_; have BK545 := n1_; have GW545 := n2_; have GE545 := n3_; clear n0_ n1_ n2_ n3_; clear hb hbox hg; obtain ⟨hcz9_0, hcz9_1, hcz9_2, hcz9_3, hfz9_0, hfz9_1, hfz9_2, hfz9_3⟩ := b4 BK545.out))
     go_ret
     exact ⟨by first | rfl | (simp [errW_none, errW_some] <;> rfl) | (simp [*, errW_none, errW_some] <;> rfl), by repeat (first | (with_reducible first | exact HB.out | apply ba | apply bd | apply be | refine below_set ?_ GE545.out) | exact HB.out)⟩
    ·rw [if_neg c7] at H
     have c7b0 : decide (1 ≤ a0_2) = false := decide_eq_false c7
     clear c7
     obtain rfl := Option.some.inj H
     go_enter Try.func64, Try.ntmps64
     go_wp2_with (first | ((with_reducible refine gate_dst (N := 1) rfl ?_); refine box_event ?hg (N := 1) ?hd (cs := #[.string a0_0, .int .i64 a0_1, .int .i64 a0_2, .int .i64 a0_3]) (t := 59) ?hr ?_; (case hd => rfl); (case hg => rfl); (case hr => first | (go_simp; done) | (go_simp; rfl)); intro gb545 hg w10 hbox hb; have n0_ := am (below_step (zL HB.out) hb); have n1_ := am (hbox); have n2_ := am (zS hg HB.out); have n3_ := am (zS hg HB.out); clear HB; have HB := n0_; have BK545 := n1_; have GW545 := n2_; have GE545 := n3_; clear n0_ n1_ n2_ n3_; clear hb hbox hg; obtain ⟨hcz11_0, hcz11_1, hcz11_2, hcz11_3, hfz11_0, hfz11_1, hfz11_2, hfz11_3⟩ := b4 BK545.out))
     go_ret
     exact ⟨by first | rfl | (simp [errW_none, errW_some] <;> rfl) | (simp [*, errW_none, errW_some] <;> rfl), by repeat (first | (with_reducible first | exact HB.out | apply ba | apply bd | apply be | refine below_set ?_ GE545.out) | exact HB.out)⟩
   ·rw [if_neg c6] at H
    have c6b0 : (a0_1 == 2) = false := beq_eq_false_iff_ne.mpr c6
    have c6b1 : (a0_1 != 2) = true := bne_iff_ne.mpr c6
    obtain rfl := Option.some.inj H
    go_enter Try.func64, Try.ntmps64
    go_wp2_with (first | ((with_reducible refine gate_dst (N := 1) rfl ?_); refine box_event ?hg (N := 1) ?hd (cs := #[.string a0_0, .int .i64 a0_1, .int .i64 a0_2, .int .i64 a0_3]) (t := 59) ?hr ?_; (case hd => rfl); (case hg => rfl); (case hr => first | (go_simp; done) | (go_simp; rfl)); intro gb545 hg w12 hbox hb; have n0_ := am (below_step (zL HB.out) hb); have n1_ := am (hbox); have n2_ := am (zS hg HB.out); have n3_ := am (zS hg HB.out); clear HB; have HB := n0_; have BK545 := n1_; have GW545 := n2_; have GE545 := n3_; clear n0_ n1_ n2_ n3_; clear hb hbox hg; obtain ⟨hcz13_0, hcz13_1, hcz13_2, hcz13_3, hfz13_0, hfz13_1, hfz13_2, hfz13_3⟩ := b4 BK545.out))
    go_ret
    exact ⟨by first | rfl | (simp [errW_none, errW_some] <;> rfl) | (simp [*, errW_none, errW_some] <;> rfl), by repeat (first | (with_reducible first | exact HB.out | apply ba | apply bd | apply be | refine below_set ?_ GE545.out) | exact HB.out)⟩
 ·rw [if_neg c2] at H
  have c2b0 : (a0_1 == 1) = false := beq_eq_false_iff_ne.mpr c2
  have c2b1 : (a0_1 != 1) = true := bne_iff_ne.mpr c2
  by_cases c14 : a0_1 = 2
  ·rw [if_pos c14] at H
   have c14b0 : (a0_1 == 2) = true := beq_iff_eq.mpr c14
   have c14b1 : (a0_1 != 2) = false := bne_eq_false_iff_eq.mpr c14
   clear c14
   by_cases c15 : a0_2 ≥ 1
   ·rw [if_pos c15] at H
    have c15b0 : decide (1 ≤ a0_2) = true := decide_eq_true c15
    clear c15
    obtain rfl := Option.some.inj H
    go_enter Try.func64, Try.ntmps64
    go_wp2_with (first | ((with_reducible refine gate_dst (N := 1) rfl ?_); refine box_event ?hg (N := 1) ?hd (cs := #[.string a0_0, .int .i64 a0_1, .int .i64 a0_2, .int .i64 a0_3]) (t := 59) ?hr ?_; (case hd => rfl); (case hg => rfl); (case hr => first | (go_simp; done) | (go_simp; rfl)); intro gb545 hg w16 hbox hb; have n0_ := am (below_step (zL HB.out) hb); have n1_ := am (hbox); have n2_ := am (zS hg HB.out); have n3_ := am (zS hg HB.out); clear HB; have HB := n0_; have BK545 := n1_; have GW545 := n2_; have GE545 := n3_; clear n0_ n1_ n2_ n3_; clear hb hbox hg; obtain ⟨hcz17_0, hcz17_1, hcz17_2, hcz17_3, hfz17_0, hfz17_1, hfz17_2, hfz17_3⟩ := b4 BK545.out))
    go_ret
    exact ⟨by first | rfl | (simp [errW_none, errW_some] <;> rfl) | (simp [*, errW_none, errW_some] <;> rfl), by repeat (first | (with_reducible first | exact HB.out | apply ba | apply bd | apply be | refine below_set ?_ GE545.out) | exact HB.out)⟩
   ·rw [if_neg c15] at H
    have c15b0 : decide (1 ≤ a0_2) = false := decide_eq_false c15
    clear c15
    obtain rfl := Option.some.inj H
    go_enter Try.func64, Try.ntmps64
    go_wp2_with (first | ((with_reducible refine gate_dst (N := 1) rfl ?_); refine box_event ?hg (N := 1) ?hd (cs := #[.string a0_0, .int .i64 a0_1, .int .i64 a0_2, .int .i64 a0_3]) (t := 59) ?hr ?_; (case hd => rfl); (case hg => rfl); (case hr => first | (go_simp; done) | (go_simp; rfl)); intro gb545 hg w18 hbox hb; have n0_ := am (below_step (zL HB.out) hb); have n1_ := am (hbox); have n2_ := am (zS hg HB.out); have n3_ := am (zS hg HB.out); clear HB; have HB := n0_; have BK545 := n1_; have GW545 := n2_; have GE545 := n3_; clear n0_ n1_ n2_ n3_; clear hb hbox hg; obtain ⟨hcz19_0, hcz19_1, hcz19_2, hcz19_3, hfz19_0, hfz19_1, hfz19_2, hfz19_3⟩ := b4 BK545.out))
    go_ret
    exact ⟨by first | rfl | (simp [errW_none, errW_some] <;> rfl) | (simp [*, errW_none, errW_some] <;> rfl), by repeat (first | (with_reducible first | exact HB.out | apply ba | apply bd | apply be | refine below_set ?_ GE545.out) | exact HB.out)⟩
  ·rw [if_neg c14] at H
   have c14b0 : (a0_1 == 2) = false := beq_eq_false_iff_ne.mpr c14
   have c14b1 : (a0_1 != 2) = true := bne_iff_ne.mpr c14
   obtain rfl := Option.some.inj H
   go_enter Try.func64, Try.ntmps64
   go_wp2_with (first | ((with_reducible refine gate_dst (N := 1) rfl ?_); refine box_event ?hg (N := 1) ?hd (cs := #[.string a0_0, .int .i64 a0_1, .int .i64 a0_2, .int .i64 a0_3]) (t := 59) ?hr ?_; (case hd => rfl); (case hg => rfl); (case hr => first | (go_simp; done) | (go_simp; rfl)); intro gb545 hg w20 hbox hb; have n0_ := am (below_step (zL HB.out) hb); have n1_ := am (hbox); have n2_ := am (zS hg HB.out); have n3_ := am (zS hg HB.out); clear HB; have HB := n0_; have BK545 := n1_; have GW545 := n2_; have GE545 := n3_; clear n0_ n1_ n2_ n3_; clear hb hbox hg; obtain ⟨hcz21_0, hcz21_1, hcz21_2, hcz21_3, hfz21_0, hfz21_1, hfz21_2, hfz21_3⟩ := b4 BK545.out))
   go_ret
   exact ⟨by first | rfl | (simp [errW_none, errW_some] <;> rfl) | (simp [*, errW_none, errW_some] <;> rfl), by repeat (first | (with_reducible first | exact HB.out | apply ba | apply bd | apply be | refine below_set ?_ GE545.out) | exact HB.out)⟩

/-! ### clusterlocksref05_ValidResource: function 63 -/
def clusterlocksref05_ValidResource.f (k : Nat) (a0_0 : ByteArray) (a0_1 : Int) (a0_2 : Int) (a0_3 : Int) : Option (Bool) := (clusterlocksref05_ValidName.f k a0_0).bind fun t547 => (if t547 = true then ((clusterlocksref04_Shaped.f a0_0 a0_1 a0_2 a0_3).bind fun t548 => (if t548 = true then (if a0_3 ≥ 0 then (some (decide (a0_3 < 4))) else (some false)) else (some false))) else (some false))
theorem clusterlocksref05_ValidResource.mono : ∀ a0 a1 a2 a3 k, LeO (clusterlocksref05_ValidResource.f k a0 a1 a2 a3) (clusterlocksref05_ValidResource.f (k + 1) a0 a1 a2 a3) := by
 intro a0 a1 a2 a3 k
 unfold clusterlocksref05_ValidResource.f
 repeat' first
   | (with_reducible exact clusterlocksref05_ValidName.mono _ _)
   | (with_reducible exact LeO.refl _)
   | (with_reducible exact LeO.none _)
   | (with_reducible refine LeO.ite ?_ ?_)
   | (with_reducible refine LeO.bind ?_ (fun _ => ?_))
   | exact clusterlocksref05_ValidName.mono _ _
   | exact LeO.none _
   | refine LeO.ite ?_ ?_
   | refine LeO.bind ?_ (fun _ => ?_)
set_option maxHeartbeats 8000000 in
set_option maxRecDepth 100000 in
theorem clusterlocksref05_ValidResource.calls (k : Nat) (a0_0 : ByteArray) (a0_1 : Int) (a0_2 : Int) (a0_3 : Int) (r : Bool) (w : World) (h : clusterlocksref05_ValidResource.f k a0_0 a0_1 a0_2 a0_3 = some r) :
  Calls Try.prog 63 #[.agg #[.string a0_0, .int .i64 a0_1, .int .i64 a0_2, .int .i64 a0_3]] w fun e w' => e = .returned (.bool r) ∧ Below w.heap.size w w' := by
 have hu59 := Try.underlying59
 have HB := am (Below.refl w.heap.size w)
 have H : ((clusterlocksref05_ValidName.f k a0_0).bind fun t547 => (if t547 = true then ((clusterlocksref04_Shaped.f a0_0 a0_1 a0_2 a0_3).bind fun t548 => (if t548 = true then (if a0_3 ≥ 0 then (some (decide (a0_3 < 4))) else (some false)) else (some false))) else (some false))) = some r := h
 clear h
 replace H := Option.bind_eq_some_iff.mp H
 obtain ⟨t547, A20, H⟩ := H
 replace H : (if t547 = true then ((clusterlocksref04_Shaped.f a0_0 a0_1 a0_2 a0_3).bind fun t548 => (if t548 = true then (if a0_3 ≥ 0 then (some (decide (a0_3 < 4))) else (some false)) else (some false))) else (some false)) = some r := H
 have A2 := Aside0.mk A20
 clear A20
 by_cases c3 : t547 = true
 ·subst c3
  have H1 : ((clusterlocksref04_Shaped.f a0_0 a0_1 a0_2 a0_3).bind fun t548 => (if t548 = true then (if a0_3 ≥ 0 then (some (decide (a0_3 < 4))) else (some false)) else (some false))) = some r := by rw [if_pos rfl] at H; exact H
  clear H
  have H := H1
  clear H1
  replace H := Option.bind_eq_some_iff.mp H
  obtain ⟨t548, A40, H⟩ := H
  replace H : (if t548 = true then (if a0_3 ≥ 0 then (some (decide (a0_3 < 4))) else (some false)) else (some false)) = some r := H
  have A4 := Aside0.mk A40
  clear A40
  by_cases c5 : t548 = true
  ·subst c5
   have H1 : (if a0_3 ≥ 0 then (some (decide (a0_3 < 4))) else (some false)) = some r := by rw [if_pos rfl] at H; exact H
   clear H
   have H := H1
   clear H1
   by_cases c6 : a0_3 ≥ 0
   ·rw [if_pos c6] at H
    have c6b0 : decide (0 ≤ a0_3) = true := decide_eq_true c6
    clear c6
    obtain rfl := Option.some.inj H
    go_enter Try.func63, Try.ntmps63
    go_wp2_with (first | ((with_reducible refine gate_dst (N := 1) rfl ?_); refine box_event ?hg (N := 1) ?hd (cs := #[.string a0_0, .int .i64 a0_1, .int .i64 a0_2, .int .i64 a0_3]) (t := 59) ?hr ?_; (case hd => rfl); (case hg => rfl); (case hr => first | (go_simp; done) | (go_simp; rfl)); intro gb546 hg w7 hbox hb; have n0_ := am (below_step (zL HB.out) hb); have n1_ := am (hbox); have n2_ := am (zS hg HB.out); have n3_ := am (zS hg HB.out); clear HB; have HB := n0_; have BK546 := n1_; have GW546 := n2_; have GE546 := n3_; clear n0_ n1_ n2_ n3_; clear hb hbox hg; obtain ⟨hcz8_0, hcz8_1, hcz8_2, hcz8_3, hfz8_0, hfz8_1, hfz8_2, hfz8_3⟩ := b4 BK546.out) | ((with_reducible refine gate_callee (f := 58) rfl ?_); refine goesL_ (some 5) rfl rfl Try.func58 (by kernel_rfl) rfl #[.string a0_0] rfl mp1 ?_; (with_reducible refine (clusterlocksref05_ValidName.calls k a0_0 true _ A2.out).mono ?_); rintro e w' ⟨rfl, ⟨nd, rfl⟩⟩; refine ⟨_, rfl, ?_⟩) | (go_at_call 64; (with_reducible refine (clusterlocksref04_Shaped.calls a0_0 a0_1 a0_2 a0_3 true _ A4.out).mono ?_); rintro e w9 ⟨rfl, hb⟩; have n0_ := am (blk_below (zB BK546.out) hb); have n1_ := am (below_step (zL HB.out) hb); clear BK546 HB; have BK546 := n0_; have HB := n1_; clear n0_ n1_; (try clear hb); (try clear hb2); (try clear hk); (try clear hi); obtain ⟨hcz10_0, hcz10_1, hcz10_2, hcz10_3, hfz10_0, hfz10_1, hfz10_2, hfz10_3⟩ := b4 BK546.out))
    go_ret
    exact ⟨by first | rfl | (simp [errW_none, errW_some] <;> rfl) | (simp [*, errW_none, errW_some] <;> rfl), by repeat (first | (with_reducible first | exact HB.out | apply ba | apply bd | apply be | refine below_set ?_ GE546.out) | exact HB.out)⟩
   ·rw [if_neg c6] at H
    have c6b0 : decide (0 ≤ a0_3) = false := decide_eq_false c6
    clear c6
    obtain rfl := Option.some.inj H
    go_enter Try.func63, Try.ntmps63
    go_wp2_with (first | ((with_reducible refine gate_dst (N := 1) rfl ?_); refine box_event ?hg (N := 1) ?hd (cs := #[.string a0_0, .int .i64 a0_1, .int .i64 a0_2, .int .i64 a0_3]) (t := 59) ?hr ?_; (case hd => rfl); (case hg => rfl); (case hr => first | (go_simp; done) | (go_simp; rfl)); intro gb546 hg w11 hbox hb; have n0_ := am (below_step (zL HB.out) hb); have n1_ := am (hbox); have n2_ := am (zS hg HB.out); have n3_ := am (zS hg HB.out); clear HB; have HB := n0_; have BK546 := n1_; have GW546 := n2_; have GE546 := n3_; clear n0_ n1_ n2_ n3_; clear hb hbox hg; obtain ⟨hcz12_0, hcz12_1, hcz12_2, hcz12_3, hfz12_0, hfz12_1, hfz12_2, hfz12_3⟩ := b4 BK546.out) | ((with_reducible refine gate_callee (f := 58) rfl ?_); refine goesL_ (some 5) rfl rfl Try.func58 (by kernel_rfl) rfl #[.string a0_0] rfl mp1 ?_; (with_reducible refine (clusterlocksref05_ValidName.calls k a0_0 true _ A2.out).mono ?_); rintro e w' ⟨rfl, ⟨nd, rfl⟩⟩; refine ⟨_, rfl, ?_⟩) | (go_at_call 64; (with_reducible refine (clusterlocksref04_Shaped.calls a0_0 a0_1 a0_2 a0_3 true _ A4.out).mono ?_); rintro e w13 ⟨rfl, hb⟩; have n0_ := am (blk_below (zB BK546.out) hb); have n1_ := am (below_step (zL HB.out) hb); clear BK546 HB; have BK546 := n0_; have HB := n1_; clear n0_ n1_; (try clear hb); (try clear hb2); (try clear hk); (try clear hi); obtain ⟨hcz14_0, hcz14_1, hcz14_2, hcz14_3, hfz14_0, hfz14_1, hfz14_2, hfz14_3⟩ := b4 BK546.out))
    go_ret
    exact ⟨by first | rfl | (simp [errW_none, errW_some] <;> rfl) | (simp [*, errW_none, errW_some] <;> rfl), by repeat (first | (with_reducible first | exact HB.out | apply ba | apply bd | apply be | refine below_set ?_ GE546.out) | exact HB.out)⟩
  ·replace c5 := Bool.eq_false_iff.mpr c5
   subst c5
   have H1 : (some false) = some r := by rw [if_neg (show ¬ (false = true) by decide)] at H; exact H
   clear H
   have H := H1
   clear H1
   obtain rfl := Option.some.inj H
   go_enter Try.func63, Try.ntmps63
   go_wp2_with (first | ((with_reducible refine gate_dst (N := 1) rfl ?_); refine box_event ?hg (N := 1) ?hd (cs := #[.string a0_0, .int .i64 a0_1, .int .i64 a0_2, .int .i64 a0_3]) (t := 59) ?hr ?_; (case hd => rfl); (case hg => rfl); (case hr => first | (go_simp; done) | (go_simp; rfl)); intro gb546 hg w15 hbox hb; have n0_ := am (below_step (zL HB.out) hb); have n1_ := am (hbox); have n2_ := am (zS hg HB.out); have n3_ := am (zS hg HB.out); clear HB; have HB := n0_; have BK546 := n1_; have GW546 := n2_; have GE546 := n3_; clear n0_ n1_ n2_ n3_; clear hb hbox hg; obtain ⟨hcz16_0, hcz16_1, hcz16_2, hcz16_3, hfz16_0, hfz16_1, hfz16_2, hfz16_3⟩ := b4 BK546.out) | ((with_reducible refine gate_callee (f := 58) rfl ?_); refine goesL_ (some 5) rfl rfl Try.func58 (by kernel_rfl) rfl #[.string a0_0] rfl mp1 ?_; (with_reducible refine (clusterlocksref05_ValidName.calls k a0_0 true _ A2.out).mono ?_); rintro e w' ⟨rfl, ⟨nd, rfl⟩⟩; refine ⟨_, rfl, ?_⟩) | (go_at_call 64; (with_reducible refine (clusterlocksref04_Shaped.calls a0_0 a0_1 a0_2 a0_3 false _ A4.out).mono ?_); rintro e w17 ⟨rfl, hb⟩; have n0_ := am (blk_below (zB BK546.out) hb); have n1_ := am (below_step (zL HB.out) hb); clear BK546 HB; have BK546 := n0_; have HB := n1_; clear n0_ n1_; (try clear hb); (try clear hb2); (try clear hk); (try clear hi)))
   go_ret
   exact ⟨by first | rfl | (simp [errW_none, errW_some] <;> rfl) | (simp [*, errW_none, errW_some] <;> rfl), by repeat (first | (with_reducible first | exact HB.out | apply ba | apply bd | apply be | refine below_set ?_ GE546.out) | exact HB.out)⟩
 ·replace c3 := Bool.eq_false_iff.mpr c3
  subst c3
  have H1 : (some false) = some r := by rw [if_neg (show ¬ (false = true) by decide)] at H; exact H
  clear H
  have H := H1
  clear H1
  obtain rfl := Option.some.inj H
  go_enter Try.func63, Try.ntmps63
  go_wp2_with (first | ((with_reducible refine gate_dst (N := 1) rfl ?_); refine box_event ?hg (N := 1) ?hd (cs := #[.string a0_0, .int .i64 a0_1, .int .i64 a0_2, .int .i64 a0_3]) (t := 59) ?hr ?_; (case hd => rfl); (case hg => rfl); (case hr => first | (go_simp; done) | (go_simp; rfl)); intro gb546 hg w18 hbox hb; have n0_ := am (below_step (zL HB.out) hb); have n1_ := am (hbox); have n2_ := am (zS hg HB.out); have n3_ := am (zS hg HB.out); clear HB; have HB := n0_; have BK546 := n1_; have GW546 := n2_; have GE546 := n3_; clear n0_ n1_ n2_ n3_; clear hb hbox hg; obtain ⟨hcz19_0, hcz19_1, hcz19_2, hcz19_3, hfz19_0, hfz19_1, hfz19_2, hfz19_3⟩ := b4 BK546.out) | ((with_reducible refine gate_callee (f := 58) rfl ?_); refine goesL_ (some 5) rfl rfl Try.func58 (by kernel_rfl) rfl #[.string a0_0] rfl mp1 ?_; (with_reducible refine (clusterlocksref05_ValidName.calls k a0_0 false _ A2.out).mono ?_); rintro e w' ⟨rfl, ⟨nd, rfl⟩⟩; refine ⟨_, rfl, ?_⟩))
  go_ret
  exact ⟨by first | rfl | (simp [errW_none, errW_some] <;> rfl) | (simp [*, errW_none, errW_some] <;> rfl), by repeat (first | (with_reducible first | exact HB.out | apply ba | apply bd | apply be | refine below_set ?_ GE546.out) | exact HB.out)⟩

end Go.Proofs.Ytefbcebpokoinaa.Y

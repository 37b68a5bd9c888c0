-- Laid by a program of this session's (xprint.py, which runs the kit's print.py with patches of its own). Lean checks it.
import Derived.Test.YtefbcebpokoinaaY0
import Derived.Test.YtefbcebpokoinaaY6
import Derived.Test.YtefbcebpokoinaaY8
import Derived.Test.YtefbcebpokoinaaY25
import Derived.Test.YtefbcebpokoinaaY26
namespace Go.Proofs.Ytefbcebpokoinaa.Y
open Go.RowKit Go.Proofs.YtefbcebpokoinaaW.PrintWords Go.Proofs.YtefbcebpokoinaaW.PrintLast Go.Proofs.YtefbcebpokoinaaW.PrintMore
attribute [local go_sem] max2_int min2_int max_two min_two max_three min_three max_four min_four   -- for this text's walks alone
set_option linter.unusedVariables false
set_option linter.unusedSimpArgs false

/-! ### clusterlocksref05_Find: function 52 -/
def clusterlocksref05_Find.l0 : Nat → List (S59) → ByteArray → Int → Option (ByteArray × Int × Int × Int × Bool)
 | 0, _, _, _ => none
 | k + 1, x0, x1, x6 => if x6 < (x0.length : Int) then (if 0 ≤ x6 then (if ((rd_T59 x0 x6).f0).toList = x1.toList then (some ((rd_T59 x0 x6).f0, (rd_T59 x0 x6).f1, (rd_T59 x0 x6).f2, (rd_T59 x0 x6).f3, true)) else (clusterlocksref05_Find.l0 k x0 x1 (wrap64 (x6 + 1)))) else (none)) else (some ((⟨#[]⟩ : ByteArray), 0, 0, 0, false))
def clusterlocksref05_Find.f (k : Nat) (l0 : List (S59)) (a1 : ByteArray) : Option (ByteArray × Int × Int × Int × Bool) := clusterlocksref05_Find.l0 k l0 a1 0
theorem clusterlocksref05_Find.mono_l : ∀ k, (∀ y0 y1 y2, LeO (clusterlocksref05_Find.l0 k y0 y1 y2) (clusterlocksref05_Find.l0 (k + 1) y0 y1 y2))
 | 0 => fun _ _ _ r h => by simp [clusterlocksref05_Find.l0] at h
 | k + 1 => by
  have ih0 := clusterlocksref05_Find.mono_l k
  ·intro y0 y1 y2
   unfold clusterlocksref05_Find.l0
   repeat' first
   | (with_reducible exact ih0 _ _ _)
   | (with_reducible exact LeO.refl _)
   | (with_reducible exact LeO.none _)
   | (with_reducible refine LeO.ite ?_ ?_)
   | (with_reducible refine LeO.bind ?_ (fun _ => ?_))
   | exact ih0 _ _ _
   | exact LeO.none _
   | refine LeO.ite ?_ ?_
   | refine LeO.bind ?_ (fun _ => ?_)
theorem clusterlocksref05_Find.mono : ∀ a0 a1 k, LeO (clusterlocksref05_Find.f k a0 a1) (clusterlocksref05_Find.f (k + 1) a0 a1) := by
 intro a0 a1 k
 have ih0 := clusterlocksref05_Find.mono_l k
 unfold clusterlocksref05_Find.f
 repeat' first
   | (with_reducible exact ih0 _ _ _)
   | (with_reducible exact LeO.refl _)
   | (with_reducible exact LeO.none _)
   | (with_reducible refine LeO.ite ?_ ?_)
   | (with_reducible refine LeO.bind ?_ (fun _ => ?_))
   | exact ih0 _ _ _
   | exact LeO.none _
   | refine LeO.ite ?_ ?_
   | refine LeO.bind ?_ (fun _ => ?_)
set_option maxHeartbeats 8000000 in
set_option maxRecDepth 100000 in
theorem clusterlocksref05_Find.calls (k : Nat) (A0 : Option Addr) (c0 : Nat) (l0 : List (S59)) (a1 : ByteArray) (r1 : ByteArray) (r2 : Int) (r3 : Int) (r4 : Int) (r5 : Bool) (w : World) (hr0 : Kd.C k59 w A0 l0.length l0) (hc0 : l0.length ≤ c0) (h : clusterlocksref05_Find.f k l0 a1 = some (r1, r2, r3, r4, r5)) :
  Calls Try.prog 52 #[.slice A0 l0.length c0, .string a1] w fun e w' => e = .returned (.tuple #[.agg #[.string r1, .int .i64 r2, .int .i64 r3, .int .i64 r4], .bool r5]) ∧ Below w.heap.size w w' := by
 have hu59 := Try.underlying59
 have HR0 := Aside0.mk hr0
 have HC0 := Aside0.mk hc0
 clear hr0 hc0
 have HB := am (Below.refl w.heap.size w)
 have H : (clusterlocksref05_Find.l0 k l0 a1 0) = some (r1, r2, r3, r4, r5) := h
 clear h
 have H' := Aside0.mk H
 clear H
 go_enter Try.func52, Try.ntmps52
 go_wp2_with (first | ((with_reducible refine gate_dst (N := 4) rfl ?_); refine box_event ?hg (N := 4) ?hd (cs := #[.string (⟨#[]⟩ : ByteArray), .int .i64 0, .int .i64 0, .int .i64 0]) (t := 59) ?hr ?_; (case hd => rfl); (case hg => rfl); (case hr => first | (go_simp; done) | (go_simp; rfl)); intro gb553 hg w3 hbox hb; have n0_ := am (below_step (zL HB.out) hb); have n1_ := am (hbox); have n2_ := am (zS hg HB.out); have n3_ := am (zS hg HB.out); clear HB; have HB := n0_; have BK553 := n1_; have GW553 := n2_; have GE553 := n3_; clear n0_ n1_ n2_ n3_; clear hb hbox hg))
 go_loopg [6] k (fun kq v6 w' => ∃ (x6_1 : Int) (x554000_1 : ByteArray) (x554001_1 : Int) (x554002_1 : Int) (x554003_1 : Int), v6 = .int .i64 x6_1 ∧ Aside0 (clusterlocksref05_Find.l0 kq l0 a1 x6_1 = some (r1, r2, r3, r4, r5)) ∧ Aside0 (kq ≤ k) ∧ Aside0 (w'.heap[gb553]? = some (.cells #[.string x554000_1, .int .i64 x554001_1, .int .i64 x554002_1, .int .i64 x554003_1] 59 (0, 0))) ∧ Aside0 (Below w.heap.size w w'))
 case atStart => exact ⟨(0), ((⟨#[]⟩ : ByteArray)), (0), (0), (0), (by first | rfl | (simp; done) | (simp [*]; done)), H', ⟨Nat.le_refl _⟩, ⟨by exact zB <| BK553.out⟩, ⟨by repeat (first | (with_reducible first | exact HB.out | apply ba | apply bd | apply be | refine below_set ?_ GE553.out) | exact HB.out)⟩⟩
 case round =>
  clear H'
  try clear p2
  obtain ⟨x6_1, x554000_1, x554001_1, x554002_1, x554003_1, rfl, HA, HK1, BK553, HB⟩ := hrel
  cases gk with
  | zero => exact absurd HA.out (by simp [clusterlocksref05_Find.l0])
  | succ k1 =>
   have H := HA.out
   clear HA
   simp only [clusterlocksref05_Find.l0] at H
   by_cases c4 : x6_1 < (l0.length : Int)
   ·rw [if_pos c4] at H
    have c4b0 : decide (x6_1 < (l0.length : Int)) = true := decide_eq_true c4
    clear c4
    by_cases c5 : 0 ≤ x6_1
    ·rw [if_pos c5] at H
     have c5b0 : decide (0 ≤ x6_1) = true := decide_eq_true c5
     clear c5
     by_cases c6 : ((rd_T59 l0 x6_1).f0).toList = a1.toList
     ·rw [if_pos c6] at H
      have c6b0 : (((rd_T59 l0 x6_1).f0).toList == a1.toList) = true := beq_iff_eq.mpr c6
      have c6b1 : (((rd_T59 l0 x6_1).f0).toList != a1.toList) = false := bne_eq_false_iff_eq.mpr c6
      clear c6
      simp only [Option.some.injEq, Prod.mk.injEq] at H
      obtain ⟨rfl, rfl, rfl, rfl, rfl⟩ := H
      have p554 : 0 ≤ (x6_1 : Int) := of_decide_eq_true (by first | (with_reducible assumption) | assumption)
      have q554 : x6_1 < (l0.length : Int) := of_decide_eq_true (by first | (with_reducible assumption) | assumption)
      obtain ⟨ad554, e554, hx554_0, hx554_1, hx554_2, hx554_3⟩ := at_T59 HR0.out x6_1 p554 q554
      cases e554
      replace hx554_0 := (HB.out.cell (World.block_lt_of_cell? w _ hx554_0)).trans hx554_0
      replace hx554_1 := (HB.out.cell (World.block_lt_of_cell? w _ hx554_1)).trans hx554_1
      replace hx554_2 := (HB.out.cell (World.block_lt_of_cell? w _ hx554_2)).trans hx554_2
      replace hx554_3 := (HB.out.cell (World.block_lt_of_cell? w _ hx554_3)).trans hx554_3
      replace p554 := eq_true p554
      replace q554 := eq_true q554
      have p555 : 0 ≤ (x6_1 : Int) := of_decide_eq_true (by first | (with_reducible assumption) | assumption)
      have q555 : x6_1 < (l0.length : Int) := of_decide_eq_true (by first | (with_reducible assumption) | assumption)
      obtain ⟨ad555, e555, hx555_0, hx555_1, hx555_2, hx555_3⟩ := at_T59 HR0.out x6_1 p555 q555
      obtain rfl : ad554 = ad555 := (by injection e555)
      replace hx555_0 := (HB.out.cell (World.block_lt_of_cell? w _ hx555_0)).trans hx555_0
      replace hx555_1 := (HB.out.cell (World.block_lt_of_cell? w _ hx555_1)).trans hx555_1
      replace hx555_2 := (HB.out.cell (World.block_lt_of_cell? w _ hx555_2)).trans hx555_2
      replace hx555_3 := (HB.out.cell (World.block_lt_of_cell? w _ hx555_3)).trans hx555_3
      replace p555 := eq_true p555
      replace q555 := eq_true q555
      obtain ⟨hcz7_0, hcz7_1, hcz7_2, hcz7_3, hfz7_0, hfz7_1, hfz7_2, hfz7_3⟩ := b4 BK553.out
      go_wp2_with (first | ((with_reducible refine gate_store (t := 59) (p := 4) rfl ?_); refine store_event (t := 59) (p := 4) (v := ?vo_w8) (w1 := ((((wr.setCell ⟨gb553, 0, none⟩ (.string ((rd_T59 l0 x6_1).f0))).setCell ⟨gb553, 1, none⟩ (.int .i64 ((rd_T59 l0 x6_1).f1))).setCell ⟨gb553, 2, none⟩ (.int .i64 ((rd_T59 l0 x6_1).f2))).setCell ⟨gb553, 3, none⟩ (.int .i64 ((rd_T59 l0 x6_1).f3)))) ?hg ?ho ?hn ?hr ?_; (case ho => rfl); (case hg => rfl); (case hn => rfl); (case hr => first | (go_simp; done) | (go_simp; rfl)); intro w8 hw; have n0_ : Aside0 (w8.heap[gb553]? = some (.cells #[.string ((rd_T59 l0 x6_1).f0), .int .i64 ((rd_T59 l0 x6_1).f1), .int .i64 ((rd_T59 l0 x6_1).f2), .int .i64 ((rd_T59 l0 x6_1).f3)] 59 (0, 0))) := ⟨(by rw [hw]; exact (by refine blk_put (cs := #[.string ((rd_T59 l0 x6_1).f0), .int .i64 ((rd_T59 l0 x6_1).f1), .int .i64 ((rd_T59 l0 x6_1).f2), .int .i64 x554003_1]) ?_ 3 _ rfl; refine blk_put (cs := #[.string ((rd_T59 l0 x6_1).f0), .int .i64 ((rd_T59 l0 x6_1).f1), .int .i64 x554002_1, .int .i64 x554003_1]) ?_ 2 _ rfl; refine blk_put (cs := #[.string ((rd_T59 l0 x6_1).f0), .int .i64 x554001_1, .int .i64 x554002_1, .int .i64 x554003_1]) ?_ 1 _ rfl; refine blk_put (cs := #[.string x554000_1, .int .i64 x554001_1, .int .i64 x554002_1, .int .i64 x554003_1]) ?_ 0 _ rfl; exact zB <| BK553.out))⟩; have n1_ : Aside0 (Below w.heap.size w w8) := ⟨(by rw [hw]; exact (by repeat (first | (with_reducible first | exact HB.out | apply ba | apply bd | apply be | refine below_set ?_ GE553.out) | exact HB.out)))⟩; clear hw BK553 HB; have BK553 := n0_; have HB := n1_; clear n0_ n1_))
      refine bodyPost_ret (results_ct rfl _ _ gb553 59 #[.string ((rd_T59 l0 x6_1).f0), .int .i64 ((rd_T59 l0 x6_1).f1), .int .i64 ((rd_T59 l0 x6_1).f2), .int .i64 ((rd_T59 l0 x6_1).f3)] (0, 0) _ rfl (zB BK553.out) Try.underlying59 rfl (by kernel_rfl)) rfl ?_
      exact ⟨by first | rfl | (simp [errW_none, errW_some] <;> rfl) | (simp [*, errW_none, errW_some] <;> rfl), by repeat (first | (with_reducible first | exact HB.out | apply ba | apply bd | apply be | refine below_set ?_ GE553.out) | exact HB.out)⟩
     ·rw [if_neg c6] at H
      have c6b0 : (((rd_T59 l0 x6_1).f0).toList == a1.toList) = false := beq_eq_false_iff_ne.mpr c6
      have c6b1 : (((rd_T59 l0 x6_1).f0).toList != a1.toList) = true := bne_iff_ne.mpr c6
      have H' := Aside0.mk H
      clear H
      have p554 : 0 ≤ (x6_1 : Int) := of_decide_eq_true (by first | (with_reducible assumption) | assumption)
      have q554 : x6_1 < (l0.length : Int) := of_decide_eq_true (by first | (with_reducible assumption) | assumption)
      obtain ⟨ad554, e554, hx554_0, hx554_1, hx554_2, hx554_3⟩ := at_T59 HR0.out x6_1 p554 q554
      cases e554
      replace hx554_0 := (HB.out.cell (World.block_lt_of_cell? w _ hx554_0)).trans hx554_0
      replace hx554_1 := (HB.out.cell (World.block_lt_of_cell? w _ hx554_1)).trans hx554_1
      replace hx554_2 := (HB.out.cell (World.block_lt_of_cell? w _ hx554_2)).trans hx554_2
      replace hx554_3 := (HB.out.cell (World.block_lt_of_cell? w _ hx554_3)).trans hx554_3
      replace p554 := eq_true p554
      replace q554 := eq_true q554
      go_wp2
      go_roundg k1
      case measure => have := HK1.out; omega
      case rel => exact ⟨(wrap64 (x6_1 + 1)), (x554000_1), (x554001_1), (x554002_1), (x554003_1), (by first | rfl | (simp; done) | (simp [*]; done)), H', ⟨by have := HK1.out; omega⟩, ⟨by exact zB <| BK553.out⟩, ⟨by repeat (first | (with_reducible first | exact HB.out | apply ba | apply bd | apply be | refine below_set ?_ GE553.out) | exact HB.out)⟩⟩
    ·rw [if_neg c5] at H
     exact absurd H (by simp)
   ·rw [if_neg c4] at H
    have c4b0 : decide (x6_1 < (l0.length : Int)) = false := decide_eq_false c4
    clear c4
    simp only [Option.some.injEq, Prod.mk.injEq] at H
    obtain ⟨rfl, rfl, rfl, rfl, rfl⟩ := H
    obtain ⟨hcz9_0, hcz9_1, hcz9_2, hcz9_3, hfz9_0, hfz9_1, hfz9_2, hfz9_3⟩ := b4 BK553.out
    go_wp2_with (first | ((with_reducible refine gate_store (t := 59) (p := 4) rfl ?_); refine store_event (t := 59) (p := 4) (v := ?vo_w10) (w1 := ((((wr.setCell ⟨gb553, 0, none⟩ (.string (⟨#[]⟩ : ByteArray))).setCell ⟨gb553, 1, none⟩ (.int .i64 0)).setCell ⟨gb553, 2, none⟩ (.int .i64 0)).setCell ⟨gb553, 3, none⟩ (.int .i64 0))) ?hg ?ho ?hn ?hr ?_; (case ho => rfl); (case hg => rfl); (case hn => rfl); (case hr => first | (go_simp; done) | (go_simp; rfl)); intro w10 hw; have n0_ : Aside0 (w10.heap[gb553]? = some (.cells #[.string (⟨#[]⟩ : ByteArray), .int .i64 0, .int .i64 0, .int .i64 0] 59 (0, 0))) := ⟨(by rw [hw]; exact (by refine blk_put (cs := #[.string (⟨#[]⟩ : ByteArray), .int .i64 0, .int .i64 0, .int .i64 x554003_1]) ?_ 3 _ rfl; refine blk_put (cs := #[.string (⟨#[]⟩ : ByteArray), .int .i64 0, .int .i64 x554002_1, .int .i64 x554003_1]) ?_ 2 _ rfl; refine blk_put (cs := #[.string (⟨#[]⟩ : ByteArray), .int .i64 x554001_1, .int .i64 x554002_1, .int .i64 x554003_1]) ?_ 1 _ rfl; refine blk_put (cs := #[.string x554000_1, .int .i64 x554001_1, .int .i64 x554002_1, .int .i64 x554003_1]) ?_ 0 _ rfl; exact zB <| BK553.out))⟩; have n1_ : Aside0 (Below w.heap.size w w10) := ⟨(by rw [hw]; exact (by repeat (first | (with_reducible first | exact HB.out | apply ba | apply bd | apply be | refine below_set ?_ GE553.out) | exact HB.out)))⟩; clear hw BK553 HB; have BK553 := n0_; have HB := n1_; clear n0_ n1_))
    refine bodyPost_ret (results_ct rfl _ _ gb553 59 #[.string (⟨#[]⟩ : ByteArray), .int .i64 0, .int .i64 0, .int .i64 0] (0, 0) _ rfl (zB BK553.out) Try.underlying59 rfl (by kernel_rfl)) rfl ?_
    exact ⟨by first | rfl | (simp [errW_none, errW_some] <;> rfl) | (simp [*, errW_none, errW_some] <;> rfl), by repeat (first | (with_reducible first | exact HB.out | apply ba | apply bd | apply be | refine below_set ?_ GE553.out) | exact HB.out)⟩

/-! ### clusterlocksref04_Fits: function 53 -/
def clusterlocksref04_Fits.f (a0_0 : ByteArray) (a0_1 : Int) (a0_2 : Int) (a0_3 : Int) (a1_0 : Int) (a1_1 : Int) : Option (Bool) := (clusterlocksref04_Shaped.f a0_0 a0_1 a0_2 a0_3).bind fun t558 => (if t558 = true then (if a0_1 = 1 then ((clusterlocksref03_Valid.f a1_0).bind fun t559 => (if t559 = true then (some (a1_1 == 0)) else (some false))) else (if a1_0 = 0 then (if a1_1 ≥ 1 then (some (decide (a1_1 ≤ a0_2))) else (some false)) else (some false))) else (some false))
set_option maxHeartbeats 8000000 in
set_option maxRecDepth 100000 in
theorem clusterlocksref04_Fits.calls (a0_0 : ByteArray) (a0_1 : Int) (a0_2 : Int) (a0_3 : Int) (a1_0 : Int) (a1_1 : Int) (r : Bool) (w : World) (h : clusterlocksref04_Fits.f a0_0 a0_1 a0_2 a0_3 a1_0 a1_1 = some r) :
  Calls Try.prog 53 #[.agg #[.string a0_0, .int .i64 a0_1, .int .i64 a0_2, .int .i64 a0_3], .agg #[.int .i64 a1_0, .int .i64 a1_1]] w fun e w' => e = .returned (.bool r) ∧ Below w.heap.size w w' := by
 have hu59 := Try.underlying59
 have hu23 := Try.underlying23
 have HB := am (Below.refl w.heap.size w)
 have H : ((clusterlocksref04_Shaped.f a0_0 a0_1 a0_2 a0_3).bind fun t558 => (if t558 = true then (if a0_1 = 1 then ((clusterlocksref03_Valid.f a1_0).bind fun t559 => (if t559 = true then (some (a1_1 == 0)) else (some false))) else (if a1_0 = 0 then (if a1_1 ≥ 1 then (some (decide (a1_1 ≤ a0_2))) else (some false)) else (some false))) else (some false))) = some r := h
 clear h
 replace H := Option.bind_eq_some_iff.mp H
 obtain ⟨t558, A30, H⟩ := H
 replace H : (if t558 = true then (if a0_1 = 1 then ((clusterlocksref03_Valid.f a1_0).bind fun t559 => (if t559 = true then (some (a1_1 == 0)) else (some false))) else (if a1_0 = 0 then (if a1_1 ≥ 1 then (some (decide (a1_1 ≤ a0_2))) else (some false)) else (some false))) else (some false)) = some r := H
 have A3 := Aside0.mk A30
 clear A30
 by_cases c4 : t558 = true
 ·subst c4
  have H1 : (if a0_1 = 1 then ((clusterlocksref03_Valid.f a1_0).bind fun t559 => (if t559 = true then (some (a1_1 == 0)) else (some false))) else (if a1_0 = 0 then (if a1_1 ≥ 1 then (some (decide (a1_1 ≤ a0_2))) else (some false)) else (some false))) = some r := by rw [if_pos rfl] at H; exact H
  clear H
  have H := H1
  clear H1
  by_cases c5 : a0_1 = 1
  ·rw [if_pos c5] at H
   have c5b0 : (a0_1 == 1) = true := beq_iff_eq.mpr c5
   have c5b1 : (a0_1 != 1) = false := bne_eq_false_iff_eq.mpr c5
   clear c5
   replace H := Option.bind_eq_some_iff.mp H
   obtain ⟨t559, A60, H⟩ := H
   replace H : (if t559 = true then (some (a1_1 == 0)) else (some false)) = some r := H
   have A6 := Aside0.mk A60
   clear A60
   by_cases c7 : t559 = true
   ·subst c7
    have H1 : (some (a1_1 == 0)) = some r := by rw [if_pos rfl] at H; exact H
    clear H
    have H := H1
    clear H1
    obtain rfl := Option.some.inj H
    go_enter Try.func53, Try.ntmps53
    go_wp2_with (first | ((with_reducible refine gate_dst (N := 2) rfl ?_); refine box_event ?hg (N := 2) ?hd (cs := #[.string a0_0, .int .i64 a0_1, .int .i64 a0_2, .int .i64 a0_3]) (t := 59) ?hr ?_; (case hd => rfl); (case hg => rfl); (case hr => first | (go_simp; done) | (go_simp; rfl)); intro gb556 hg w8 hbox hb; have n0_ := am (below_step (zL HB.out) hb); have n1_ := am (hbox); have n2_ := am (zS hg HB.out); have n3_ := am (zS hg HB.out); clear HB; have HB := n0_; have BK556 := n1_; have GW556 := n2_; have GE556 := n3_; clear n0_ n1_ n2_ n3_; clear hb hbox hg) | ((with_reducible refine gate_dst (N := 3) rfl ?_); refine box_event ?hg (N := 3) ?hd (cs := #[.int .i64 a1_0, .int .i64 a1_1]) (t := 23) ?hr ?_; (case hd => rfl); (case hg => rfl); (case hr => first | (go_simp; done) | (go_simp; rfl)); intro gb557 hg w9 hbox hb; have n0_ := am (blk_below (zB BK556.out) hb); have n1_ := am (below_step (zL HB.out) hb); have n2_ := am (hbox); have n3_ := am (zS hg HB.out); have n4_ := am (zS hg HB.out); have n5_ := am (zN hg BK556.out); have n6_ := am (zM hg BK556.out); clear BK556 HB; have BK556 := n0_; have HB := n1_; have BK557 := n2_; have GW557 := n3_; have GE557 := n4_; have NB556_557 := n5_; have NB557_556 := n6_; clear n0_ n1_ n2_ n3_ n4_ n5_ n6_; clear hb hbox hg; have hnb10 := NB556_557.out; have hnc10 := NB557_556.out; obtain ⟨hcz11_0, hcz11_1, hcz11_2, hcz11_3, hfz11_0, hfz11_1, hfz11_2, hfz11_3⟩ := b4 BK556.out) | ((with_reducible refine gate_callee (f := 64) rfl ?_); refine goesL_ (some 6) rfl rfl Try.func64 (by kernel_rfl) rfl #[.agg #[.string a0_0, .int .i64 a0_1, .int .i64 a0_2, .int .i64 a0_3]] rfl mp1 ?_; (with_reducible refine (clusterlocksref04_Shaped.calls a0_0 a0_1 a0_2 a0_3 true _ A3.out).mono ?_); rintro e w12 ⟨rfl, hb⟩; refine ⟨_, rfl, ?_⟩; have n0_ := am (blk_below (zB BK556.out) hb); have n1_ := am (blk_below (zB BK557.out) hb); have n2_ := am (below_step (zL HB.out) hb); clear BK556 BK557 HB; have BK556 := n0_; have BK557 := n1_; have HB := n2_; clear n0_ n1_ n2_; (try clear hb); (try clear hb2); (try clear hk); (try clear hi); obtain ⟨hcz13_0, hcz13_1, hcz13_2, hcz13_3, hfz13_0, hfz13_1, hfz13_2, hfz13_3⟩ := b4 BK556.out; obtain ⟨hcz14_0, hcz14_1, hfz14_0, hfz14_1⟩ := b2 BK557.out) | ((with_reducible refine gate_callee (f := 65) rfl ?_); refine goesL_ (some 13) rfl rfl Try.func65 (by kernel_rfl) rfl #[.int .i64 a1_0] rfl mp1 ?_; (with_reducible refine (clusterlocksref03_Valid.calls a1_0 true _ A6.out).mono ?_); rintro e w' ⟨rfl, ⟨nd, rfl⟩⟩; refine ⟨_, rfl, ?_⟩))
    go_ret
    exact ⟨by first | rfl | (simp [errW_none, errW_some] <;> rfl) | (simp [*, errW_none, errW_some] <;> rfl), by repeat (first | (with_reducible first | exact HB.out | apply ba | apply bd | apply be | refine below_set ?_ GE556.out | refine below_set ?_ GE557.out) | exact HB.out)⟩
   ·replace c7 := Bool.eq_false_iff.mpr c7
    subst c7
    have H1 : (some false) = some r := by rw [if_neg (show ¬ (false = true) by decide)] at H; exact H
    clear H
    have H := H1
    clear H1
    obtain rfl := Option.some.inj H
    go_enter Try.func53, Try.ntmps53
    go_wp2_with (first | ((with_reducible refine gate_dst (N := 2) rfl ?_); refine box_event ?hg (N := 2) ?hd (cs := #[.string a0_0, .int .i64 a0_1, .int .i64 a0_2, .int .i64 a0_3]) (t := 59) ?hr ?_; (case hd => rfl); (case hg => rfl); (case hr => first | (go_simp; done) | (go_simp; rfl)); intro gb556 hg w15 hbox hb; have n0_ := am (below_step (zL HB.out) hb); have n1_ := am (hbox); have n2_ := am (zS hg HB.out); have n3_ := am (zS hg HB.out); clear HB; have HB := n0_; have BK556 := n1_; have GW556 := n2_; have GE556 := n3_; clear n0_ n1_ n2_ n3_; clear hb hbox hg) | ((with_reducible refine gate_dst (N := 3) rfl ?_); refine box_event ?hg (N := 3) ?hd (cs := #[.int .i64 a1_0, .int .i64 a1_1]) (t := 23) ?hr ?_; (case hd => rfl); (case hg => rfl); (case hr => first | (go_simp; done) | (go_simp; rfl)); intro gb557 hg w16 hbox hb; have n0_ := am (blk_below (zB BK556.out) hb); have n1_ := am (below_step (zL HB.out) hb); have n2_ := am (hbox); have n3_ := am (zS hg HB.out); have n4_ := am (zS hg HB.out); have n5_ := am (zN hg BK556.out); have n6_ := am (zM hg BK556.out); clear BK556 HB; have BK556 := n0_; have HB := n1_; have BK557 := n2_; have GW557 := n3_; have GE557 := n4_; have NB556_557 := n5_; have NB557_556 := n6_; clear n0_ n1_ n2_ n3_ n4_ n5_ n6_; clear hb hbox hg; have hnb17 := NB556_557.out; have hnc17 := NB557_556.out; obtain ⟨hcz18_0, hcz18_1, hcz18_2, hcz18_3, hfz18_0, hfz18_1, hfz18_2, hfz18_3⟩ := b4 BK556.out) | ((with_reducible refine gate_callee (f := 64) rfl ?_); refine goesL_ (some 6) rfl rfl Try.func64 (by kernel_rfl) rfl #[.agg #[.string a0_0, .int .i64 a0_1, .int .i64 a0_2, .int .i64 a0_3]] rfl mp1 ?_; (with_reducible refine (clusterlocksref04_Shaped.calls a0_0 a0_1 a0_2 a0_3 true _ A3.out).mono ?_); rintro e w19 ⟨rfl, hb⟩; refine ⟨_, rfl, ?_⟩; have n0_ := am (blk_below (zB BK556.out) hb); have n1_ := am (blk_below (zB BK557.out) hb); have n2_ := am (below_step (zL HB.out) hb); clear BK556 BK557 HB; have BK556 := n0_; have BK557 := n1_; have HB := n2_; clear n0_ n1_ n2_; (try clear hb); (try clear hb2); (try clear hk); (try clear hi); obtain ⟨hcz20_0, hcz20_1, hcz20_2, hcz20_3, hfz20_0, hfz20_1, hfz20_2, hfz20_3⟩ := b4 BK556.out; obtain ⟨hcz21_0, hcz21_1, hfz21_0, hfz21_1⟩ := b2 BK557.out) | ((with_reducible refine gate_callee (f := 65) rfl ?_); refine goesL_ (some 13) rfl rfl Try.func65 (by kernel_rfl) rfl #[.int .i64 a1_0] rfl mp1 ?_; (with_reducible refine (clusterlocksref03_Valid.calls a1_0 false _ A6.out).mono ?_); rintro e w' ⟨rfl, ⟨nd, rfl⟩⟩; refine ⟨_, rfl, ?_⟩))
    go_ret
    exact ⟨by first | rfl | (simp [errW_none, errW_some] <;> rfl) | (simp [*, errW_none, errW_some] <;> rfl), by repeat (first | (with_reducible first | exact HB.out | apply ba | apply bd | apply be | refine below_set ?_ GE556.out | refine below_set ?_ GE557.out) | exact HB.out)⟩
  ·rw [if_neg c5] at H
   have c5b0 : (a0_1 == 1) = false := beq_eq_false_iff_ne.mpr c5
   have c5b1 : (a0_1 != 1) = true := bne_iff_ne.mpr c5
   by_cases c22 : a1_0 = 0
   ·rw [if_pos c22] at H
    have c22b0 : (a1_0 == 0) = true := beq_iff_eq.mpr c22
    have c22b1 : (a1_0 != 0) = false := bne_eq_false_iff_eq.mpr c22
    clear c22
    by_cases c23 : a1_1 ≥ 1
    ·rw [if_pos c23] at H
     have c23b0 : decide (1 ≤ a1_1) = true := decide_eq_true c23
     clear c23
     obtain rfl := Option.some.inj H
     go_enter Try.func53, Try.ntmps53
     go_wp2_with (first | ((with_reducible refine gate_dst (N := 2) rfl ?_); refine box_event ?hg (N := 2) ?hd (cs := #[.string a0_0, .int .i64 a0_1, .int .i64 a0_2, .int .i64 a0_3]) (t := 59) ?hr ?_; (case hd => rfl); (case hg => rfl); (case hr => first | (go_simp; done) | (go_simp; rfl)); intro gb556 hg w24 hbox hb; have n0_ := am (below_step (zL HB.out) hb); have n1_ := am (hbox); have n2_ := am (zS hg HB.out); have n3_ := am (zS hg HB.out); clear HB; have HB := n0_; have BK556 := n1_; have GW556 := n2_; have GE556 := n3_; clear n0_ n1_ n2_ n3_; clear hb hbox hg) | ((with_reducible refine gate_dst (N := 3) rfl ?_); refine box_event ?hg (N := 3) ?hd (cs := #[.int .i64 a1_0, .int .i64 a1_1]) (t := 23) ?hr ?_; (case hd => rfl); (case hg => rfl); (case hr => first | (go_simp; done) | (go_simp; rfl)); intro gb557 hg w25 hbox hb; have n0_ := am (blk_below (zB BK556.out) hb); have n1_ := am (below_step (zL HB.out) hb); have n2_ := am (hbox); have n3_ := am (zS hg HB.out); have n4_ := am (zS hg HB.out); have n5_ := am (zN hg BK556.out); have n6_ := am (zM hg BK556.out); clear BK556 HB; have BK556 := n0_; have HB := n1_; have BK557 := n2_; have GW557 := n3_; have GE557 := n4_; have NB556_557 := n5_; have NB557_556 := n6_; clear n0_ n1_ n2_ n3_ n4_ n5_ n6_; clear hb hbox hg; have hnb26 := NB556_557.out; have hnc26 := NB557_556.out; obtain ⟨hcz27_0, hcz27_1, hcz27_2, hcz27_3, hfz27_0, hfz27_1, hfz27_2, hfz27_3⟩ := b4 BK556.out) | ((with_reducible refine gate_callee (f := 64) rfl ?_); refine goesL_ (some 6) rfl rfl Try.func64 (by kernel_rfl) rfl #[.agg #[.string a0_0, .int .i64 a0_1, .int .i64 a0_2, .int .i64 a0_3]] rfl mp1 ?_; (with_reducible refine (clusterlocksref04_Shaped.calls a0_0 a0_1 a0_2 a0_3 true _ A3.out).mono ?_); rintro e w28 ⟨rfl, hb⟩; refine ⟨_, rfl, ?_⟩; have n0_ := am (blk_below (zB BK556.out) hb); have n1_ := am (blk_below (zB BK557.out) hb); have n2_ := am (below_step (zL HB.out) hb); clear BK556 BK557 HB; have BK556 := n0_; have BK557 := n1_; have HB := n2_; clear n0_ n1_ n2_; (try clear hb); (try clear hb2); (try clear hk); (try clear hi); obtain ⟨hcz29_0, hcz29_1, hcz29_2, hcz29_3, hfz29_0, hfz29_1, hfz29_2, hfz29_3⟩ := b4 BK556.out; obtain ⟨hcz30_0, hcz30_1, hfz30_0, hfz30_1⟩ := b2 BK557.out))
     go_ret
     exact ⟨by first | rfl | (simp [errW_none, errW_some] <;> rfl) | (simp [*, errW_none, errW_some] <;> rfl), by repeat (first | (with_reducible first | exact HB.out | apply ba | apply bd | apply be | refine below_set ?_ GE556.out | refine below_set ?_ GE557.out) | exact HB.out)⟩
    ·rw [if_neg c23] at H
     have c23b0 : decide (1 ≤ a1_1) = false := decide_eq_false c23
     clear c23
     obtain rfl := Option.some.inj H
     go_enter Try.func53, Try.ntmps53
     go_wp2_with (first | ((with_reducible refine gate_dst (N := 2) rfl ?_); refine box_event ?hg (N := 2) ?hd (cs := #[.string a0_0, .int .i64 a0_1, .int .i64 a0_2, .int .i64 a0_3]) (t := 59) ?hr ?_; (case hd => rfl); (case hg => rfl); (case hr => first | (go_simp; done) | (go_simp; rfl)); intro gb556 hg w31 hbox hb; have n0_ := am (below_step (zL HB.out) hb); have n1_ := am (hbox); have n2_ := am (zS hg HB.out); have n3_ := am (zS hg HB.out); clear HB; have HB := n0_; have BK556 := n1_; have GW556 := n2_; have GE556 := n3_; clear n0_ n1_ n2_ n3_; clear hb hbox hg) | ((with_reducible refine gate_dst (N := 3) rfl ?_); refine box_event ?hg (N := 3) ?hd (cs := #[.int .i64 a1_0, .int .i64 a1_1]) (t := 23) ?hr ?_; (case hd => rfl); (case hg => rfl); (case hr => first | (go_simp; done) | (go_simp; rfl)); intro gb557 hg w32 hbox hb; have n0_ := am (blk_below (zB BK556.out) hb); have n1_ := am (below_step (zL HB.out) hb); have n2_ := am (hbox); have n3_ := am (zS hg HB.out); have n4_ := am (zS hg HB.out); have n5_ := am (zN hg BK556.out); have n6_ := am (zM hg BK556.out); clear BK556 HB; have BK556 := n0_; have HB := n1_; have BK557 := n2_; have GW557 := n3_; have GE557 := n4_; have NB556_557 := n5_; have NB557_556 := n6_; clear n0_ n1_ n2_ n3_ n4_ n5_ n6_; clear hb hbox hg; have hnb33 := NB556_557.out; have hnc33 := NB557_556.out; obtain ⟨hcz34_0, hcz34_1, hcz34_2, hcz34_3, hfz34_0, hfz34_1, hfz34_2, hfz34_3⟩ := b4 BK556.out) | ((with_reducible refine gate_callee (f := 64) rfl ?_); refine goesL_ (some 6) rfl rfl Try.func64 (by kernel_rfl) rfl #[.agg #[.string a0_0, .int .i64 a0_1, .int .i64 a0_2, .int .i64 a0_3]] rfl mp1 ?_; (with_reducible refine (clusterlocksref04_Shaped.calls a0_0 a0_1 a0_2 a0_3 true _ A3.out).mono ?_); rintro e w35 ⟨rfl, hb⟩; refine ⟨_, rfl, ?_⟩; have n0_ := am (blk_below (zB BK556.out) hb); have n1_ := am (blk_below (zB BK557.out) hb); have n2_ := am (below_step (zL HB.out) hb); clear BK556 BK557 HB; have BK556 := n0_; have BK557 := n1_; have HB := n2_; clear n0_ n1_ n2_; (try clear hb); (try clear hb2); (try clear hk); (try clear hi); obtain ⟨hcz36_0, hcz36_1, hcz36_2, hcz36_3, hfz36_0, hfz36_1, hfz36_2, hfz36_3⟩ := b4 BK556.out; obtain ⟨hcz37_0, hcz37_1, hfz37_0, hfz37_1⟩ := b2 BK557.out))
     go_ret
     exact ⟨by first | rfl | (simp [errW_none, errW_some] <;> rfl) | (simp [*, errW_none, errW_some] <;> rfl), by repeat (first | (with_reducible first | exact HB.out | apply ba | apply bd | apply be | refine below_set ?_ GE556.out | refine below_set ?_ GE557.out) | exact HB.out)⟩
   ·rw [if_neg c22] at H
    have c22b0 : (a1_0 == 0) = false := beq_eq_false_iff_ne.mpr c22
    have c22b1 : (a1_0 != 0) = true := bne_iff_ne.mpr c22
    obtain rfl := Option.some.inj H
    go_enter Try.func53, Try.ntmps53
    go_wp2_with (first | ((with_reducible refine gate_dst (N := 2) rfl ?_); refine box_event ?hg (N := 2) ?hd (cs := #[.string a0_0, .int .i64 a0_1, .int .i64 a0_2, .int .i64 a0_3]) (t := 59) ?hr ?_; (case hd => rfl); (case hg => rfl); (case hr => first | (go_simp; done) | (go_simp; rfl)); intro gb556 hg w38 hbox hb; have n0_ := am (below_step (zL HB.out) hb); have n1_ := am (hbox); have n2_ := am (zS hg HB.out); have n3_ := am (zS hg HB.out); clear HB; have HB := n0_; have BK556 := n1_; have GW556 := n2_; have GE556 := n3_; clear n0_ n1_ n2_ n3_; clear hb hbox hg) | ((with_reducible refine gate_dst (N := 3) rfl ?_); refine box_event ?hg (N := 3) ?hd (cs := #[.int .i64 a1_0, .int .i64 a1_1]) (t := 23) ?hr ?_; (case hd => rfl); (case hg => rfl); (case hr => first | (go_simp; done) | (go_simp; rfl)); intro gb557 hg w39 hbox hb; have n0_ := am (blk_below (zB BK556.out) hb); have n1_ := am (below_step (zL HB.out) hb); have n2_ := am (hbox); have n3_ := am (zS hg HB.out); have n4_ := am (zS hg HB.out); have n5_ := am (zN hg BK556.out); have n6_ := am (zM hg BK556.out); clear BK556 HB; have BK556 := n0_; have HB := n1_; have BK557 := n2_; have GW557 := n3_; have GE557 := n4_; have NB556_557 := n5_; have NB557_556 := n6_; clear n0_ n1_ n2_ n3_ n4_ n5_ n6_; clear hb hbox hg; have hnb40 := NB556_557.out; have hnc40 := NB557_556.out; obtain ⟨hcz41_0, hcz41_1, hcz41_2, hcz41_3, hfz41_0, hfz41_1, hfz41_2, hfz41_3⟩ := b4 BK556.out) | ((with_reducible refine gate_callee (f := 64) rfl ?_); refine goesL_ (some 6) rfl rfl Try.func64 (by kernel_rfl) rfl #[.agg #[.string a0_0, .int .i64 a0_1, .int .i64 a0_2, .int .i64 a0_3]] rfl mp1 ?_; (with_reducible refine (clusterlocksref04_Shaped.calls a0_0 a0_1 a0_2 a0_3 true _ A3.out).mono ?_); rintro e w42 ⟨rfl, hb⟩; refine ⟨_, rfl, ?_⟩; have n0_ := am (blk_below (zB BK556.out) hb); have n1_ := am (blk_below (zB BK557.out) hb); have n2_ := am (below_step (zL HB.out) hb); clear BK556 BK557 HB; have BK556 := n0_; have BK557 := n1_; have HB := n2_; clear n0_ n1_ n2_; (try clear hb); (try clear hb2); (try clear hk); (try clear hi); obtain ⟨hcz43_0, hcz43_1, hcz43_2, hcz43_3, hfz43_0, hfz43_1, hfz43_2, hfz43_3⟩ := b4 BK556.out; obtain ⟨hcz44_0, hcz44_1, hfz44_0, hfz44_1⟩ := b2 BK557.out))
    go_ret
    exact ⟨by first | rfl | (simp [errW_none, errW_some] <;> rfl) | (simp [*, errW_none, errW_some] <;> rfl), by repeat (first | (with_reducible first | exact HB.out | apply ba | apply bd | apply be | refine below_set ?_ GE556.out | refine below_set ?_ GE557.out) | exact HB.out)⟩
 ·replace c4 := Bool.eq_false_iff.mpr c4
  subst c4
  have H1 : (some false) = some r := by rw [if_neg (show ¬ (false = true) by decide)] at H; exact H
  clear H
  have H := H1
  clear H1
  obtain rfl := Option.some.inj H
  go_enter Try.func53, Try.ntmps53
  go_wp2_with (first | ((with_reducible refine gate_dst (N := 2) rfl ?_); refine box_event ?hg (N := 2) ?hd (cs := #[.string a0_0, .int .i64 a0_1, .int .i64 a0_2, .int .i64 a0_3]) (t := 59) ?hr ?_; (case hd => rfl); (case hg => rfl); (case hr => first | (go_simp; done) | (go_simp; rfl)); intro gb556 hg w45 hbox hb; have n0_ := am (below_step (zL HB.out) hb); have n1_ := am (hbox); have n2_ := am (zS hg HB.out); have n3_ := am (zS hg HB.out); clear HB; have HB := n0_; have BK556 := n1_; have GW556 := n2_; have GE556 := n3_; clear n0_ n1_ n2_ n3_; clear hb hbox hg) | ((with_reducible refine gate_dst (N := 3) rfl ?_); refine box_event ?hg (N := 3) ?hd (cs := #[.int .i64 a1_0, .int .i64 a1_1]) (t := 23) ?hr ?_; (case hd => rfl); (case hg => rfl); (case hr => first | (go_simp; done) | (go_simp; rfl)); intro gb557 hg w46 hbox hb; have n0_ := am (blk_below (zB BK556.out) hb); have n1_ := am (below_step (zL HB.out) hb); have n2_ := am (hbox); have n3_ := am (zS hg HB.out); have n4_ := am (zS hg HB.out); have n5_ := am (zN hg BK556.out); have n6_ := am (zM hg BK556.out); clear BK556 HB; have BK556 := n0_; have HB := n1_; have BK557 := n2_; have GW557 := n3_; have GE557 := n4_; have NB556_557 := n5_; have NB557_556 := n6_; clear n0_ n1_ n2_ n3_ n4_ n5_ n6_; clear hb hbox hg; have hnb47 := NB556_557.out; have hnc47 := NB557_556.out; obtain ⟨hcz48_0, hcz48_1, hcz48_2, hcz48_3, hfz48_0, hfz48_1, hfz48_2, hfz48_3⟩ := b4 BK556.out) | ((with_reducible refine gate_callee (f := 64) rfl ?_); refine goesL_ (some 6) rfl rfl Try.func64 (by kernel_rfl) rfl #[.agg #[.string a0_0, .int .i64 a0_1, .int .i64 a0_2, .int .i64 a0_3]] rfl mp1 ?_; (with_reducible refine (clusterlocksref04_Shaped.calls a0_0 a0_1 a0_2 a0_3 false _ A3.out).mono ?_); rintro e w49 ⟨rfl, hb⟩; refine ⟨_, rfl, ?_⟩; have n0_ := am (blk_below (zB BK556.out) hb); have n1_ := am (blk_below (zB BK557.out) hb); have n2_ := am (below_step (zL HB.out) hb); clear BK556 BK557 HB; have BK556 := n0_; have BK557 := n1_; have HB := n2_; clear n0_ n1_ n2_; (try clear hb); (try clear hb2); (try clear hk); (try clear hi)))
  go_ret
  exact ⟨by first | rfl | (simp [errW_none, errW_some] <;> rfl) | (simp [*, errW_none, errW_some] <;> rfl), by repeat (first | (with_reducible first | exact HB.out | apply ba | apply bd | apply be | refine below_set ?_ GE556.out | refine below_set ?_ GE557.out) | exact HB.out)⟩

/-! ### clusterlocksref05_Resolve: function 39 -/
def clusterlocksref05_Resolve.f (k : Nat) (l0 : List (S59)) (a1_0 : ByteArray) (a1_1 : Int) (a1_2 : Int) : Option (Int) := (clusterlocksref05_Valid.f k l0).bind fun t561 => (if t561 = true then ((clusterlocksref05_Find.f k l0 a1_0).bind fun bt562 => (if bt562.2.2.2.2 = true then ((clusterlocksref04_Fits.f bt562.1 bt562.2.1 bt562.2.2.1 bt562.2.2.2.1 a1_1 a1_2).bind fun t568 => (if t568 = true then (some 0) else (some 12))) else (some 10))) else (some 2))
theorem clusterlocksref05_Resolve.mono : ∀ a0 a1 a2 a3 k, LeO (clusterlocksref05_Resolve.f k a0 a1 a2 a3) (clusterlocksref05_Resolve.f (k + 1) a0 a1 a2 a3) := by
 intro a0 a1 a2 a3 k
 unfold clusterlocksref05_Resolve.f
 repeat' first
   | (with_reducible exact clusterlocksref05_Find.mono _ _ _)
   | (with_reducible exact clusterlocksref05_Valid.mono _ _)
   | (with_reducible exact LeO.refl _)
   | (with_reducible exact LeO.none _)
   | (with_reducible refine LeO.ite ?_ ?_)
   | (with_reducible refine LeO.bind ?_ (fun _ => ?_))
   | exact clusterlocksref05_Find.mono _ _ _
   | exact clusterlocksref05_Valid.mono _ _
   | exact LeO.none _
   | refine LeO.ite ?_ ?_
   | refine LeO.bind ?_ (fun _ => ?_)
set_option maxHeartbeats 8000000 in
set_option maxRecDepth 100000 in
theorem clusterlocksref05_Resolve.calls (k : Nat) (A0 : Option Addr) (c0 : Nat) (l0 : List (S59)) (a1_0 : ByteArray) (a1_1 : Int) (a1_2 : Int) (r : Int) (w : World) (hr0 : Kd.C k59 w A0 l0.length l0) (hc0 : l0.length ≤ c0) (h : clusterlocksref05_Resolve.f k l0 a1_0 a1_1 a1_2 = some r) :
  Calls Try.prog 39 #[.slice A0 l0.length c0, .agg #[.string a1_0, .int .i64 a1_1, .int .i64 a1_2]] w fun e w' => e = .returned (.int .i64 r) ∧ Below w.heap.size w w' := by
 have hu25 := Try.underlying25
 have hu59 := Try.underlying59
 have hu23 := Try.underlying23
 have HR0 := Aside0.mk hr0
 have HC0 := Aside0.mk hc0
 clear hr0 hc0
 have HB := am (Below.refl w.heap.size w)
 have H : ((clusterlocksref05_Valid.f k l0).bind fun t561 => (if t561 = true then ((clusterlocksref05_Find.f k l0 a1_0).bind fun bt562 => (if bt562.2.2.2.2 = true then ((clusterlocksref04_Fits.f bt562.1 bt562.2.1 bt562.2.2.1 bt562.2.2.2.1 a1_1 a1_2).bind fun t568 => (if t568 = true then (some 0) else (some 12))) else (some 10))) else (some 2))) = some r := h
 clear h
 replace H := Option.bind_eq_some_iff.mp H
 obtain ⟨t561, A30, H⟩ := H
 replace H : (if t561 = true then ((clusterlocksref05_Find.f k l0 a1_0).bind fun bt562 => (if bt562.2.2.2.2 = true then ((clusterlocksref04_Fits.f bt562.1 bt562.2.1 bt562.2.2.1 bt562.2.2.2.1 a1_1 a1_2).bind fun t568 => (if t568 = true then (some 0) else (some 12))) else (some 10))) else (some 2)) = some r := H
 have A3 := Aside0.mk A30
 clear A30
 by_cases c4 : t561 = true
 ·subst c4
  have H1 : ((clusterlocksref05_Find.f k l0 a1_0).bind fun bt562 => (if bt562.2.2.2.2 = true then ((clusterlocksref04_Fits.f bt562.1 bt562.2.1 bt562.2.2.1 bt562.2.2.2.1 a1_1 a1_2).bind fun t568 => (if t568 = true then (some 0) else (some 12))) else (some 10))) = some r := by rw [if_pos rfl] at H; exact H
  clear H
  have H := H1
  clear H1
  replace H := Option.bind_eq_some_iff.mp H
  obtain ⟨⟨t562, t563, t564, t565, t566⟩, A50, H⟩ := H
  replace H : (if t566 = true then ((clusterlocksref04_Fits.f t562 t563 t564 t565 a1_1 a1_2).bind fun t568 => (if t568 = true then (some 0) else (some 12))) else (some 10)) = some r := H
  have A5 := Aside0.mk A50
  clear A50
  by_cases c6 : t566 = true
  ·subst c6
   have H1 : ((clusterlocksref04_Fits.f t562 t563 t564 t565 a1_1 a1_2).bind fun t568 => (if t568 = true then (some 0) else (some 12))) = some r := by rw [if_pos rfl] at H; exact H
   clear H
   have H := H1
   clear H1
   replace H := Option.bind_eq_some_iff.mp H
   obtain ⟨t568, A70, H⟩ := H
   replace H : (if t568 = true then (some 0) else (some 12)) = some r := H
   have A7 := Aside0.mk A70
   clear A70
   by_cases c8 : t568 = true
   ·subst c8
    have H1 : (some 0) = some r := by rw [if_pos rfl] at H; exact H
    clear H
    have H := H1
    clear H1
    obtain rfl := Option.some.inj H
    go_enter Try.func39, Try.ntmps39
    go_wp2_with (first | ((with_reducible refine gate_dst (N := 3) rfl ?_); refine box_event ?hg (N := 3) ?hd (cs := #[.string a1_0, .int .i64 a1_1, .int .i64 a1_2]) (t := 25) ?hr ?_; (case hd => rfl); (case hg => rfl); (case hr => first | (go_simp; done) | (go_simp; rfl)); intro gb560 hg w9 hbox hb; have n0_ := am (below_step (zL HB.out) hb); have n1_ := am (hbox); have n2_ := am (zS hg HB.out); have n3_ := am (zS hg HB.out); clear HB; have HB := n0_; have BK560 := n1_; have GW560 := n2_; have GE560 := n3_; clear n0_ n1_ n2_ n3_; clear hb hbox hg) | ((with_reducible refine gate_callee (f := 51) rfl ?_); refine goesL_ (some 8) rfl rfl Try.func51 (by kernel_rfl) rfl #[.slice A0 l0.length c0] rfl mp1 ?_; (with_reducible refine (clusterlocksref05_Valid.calls k _ _ l0 true _ ?side1 ?side2 A3.out).mono ?_); (case side1 => exact zC (Kd.C_below HR0.out HB.out)); (case side2 => exact HC0.out); rintro e w10 ⟨rfl, hb⟩; refine ⟨_, rfl, ?_⟩; have n0_ := am (blk_below (zB BK560.out) hb); have n1_ := am (below_step (zL HB.out) hb); clear BK560 HB; have BK560 := n0_; have HB := n1_; clear n0_ n1_; (try clear hb); (try clear hb2); (try clear hk); (try clear hi); obtain ⟨hcz11_0, hcz11_1, hcz11_2, hfz11_0, hfz11_1, hfz11_2⟩ := b3 BK560.out) | ((with_reducible refine gate_callee (f := 52) rfl ?_); refine goesL_ (some 14) rfl rfl Try.func52 (by kernel_rfl) rfl #[.slice A0 l0.length c0, .string a1_0] rfl mp2 ?_; (with_reducible refine (clusterlocksref05_Find.calls k _ _ l0 a1_0 t562 t563 t564 t565 true _ ?side1 ?side2 A5.out).mono ?_); (case side1 => exact zC (Kd.C_below HR0.out HB.out)); (case side2 => exact HC0.out); rintro e w12 ⟨rfl, hb⟩; refine ⟨_, rfl, ?_⟩; have n0_ := am (blk_below (zB BK560.out) hb); have n1_ := am (below_step (zL HB.out) hb); clear BK560 HB; have BK560 := n0_; have HB := n1_; clear n0_ n1_; (try clear hb); (try clear hb2); (try clear hk); (try clear hi)) | ((with_reducible refine gate_dst (N := 5) rfl ?_); refine box_event ?hg (N := 5) ?hd (cs := #[.string (⟨#[]⟩ : ByteArray), .int .i64 0, .int .i64 0, .int .i64 0]) (t := 59) ?hr ?_; (case hd => rfl); (case hg => rfl); (case hr => first | (go_simp; done) | (go_simp; rfl)); intro gb567 hg w13 hbox hb; have n0_ := am (blk_below (zB BK560.out) hb); have n1_ := am (below_step (zL HB.out) hb); have n2_ := am (hbox); have n3_ := am (zS hg HB.out); have n4_ := am (zS hg HB.out); have n5_ := am (zN hg BK560.out); have n6_ := am (zM hg BK560.out); clear BK560 HB; have BK560 := n0_; have HB := n1_; have BK567 := n2_; have GW567 := n3_; have GE567 := n4_; have NB560_567 := n5_; have NB567_560 := n6_; clear n0_ n1_ n2_ n3_ n4_ n5_ n6_; clear hb hbox hg; have hnb14 := NB567_560.out; have hnc14 := NB560_567.out; obtain ⟨hcz15_0, hcz15_1, hcz15_2, hcz15_3, hfz15_0, hfz15_1, hfz15_2, hfz15_3⟩ := b4 BK567.out) | ((with_reducible refine gate_store (t := 59) (p := 5) rfl ?_); refine store_event (t := 59) (p := 5) (v := ?vo_w16) (w1 := ((((w13.setCell ⟨gb567, 0, none⟩ (.string t562)).setCell ⟨gb567, 1, none⟩ (.int .i64 t563)).setCell ⟨gb567, 2, none⟩ (.int .i64 t564)).setCell ⟨gb567, 3, none⟩ (.int .i64 t565))) ?hg ?ho ?hn ?hr ?_; (case ho => rfl); (case hg => rfl); (case hn => rfl); (case hr => first | (go_simp; done) | (go_simp; rfl)); intro w16 hw; have n0_ : Aside0 (w16.heap[gb560]? = some (.cells #[.string a1_0, .int .i64 a1_1, .int .i64 a1_2] 25 (0, 0))) := ⟨(by rw [hw]; exact (by refine blk_far ?_ NB560_567.out _; refine blk_far ?_ NB560_567.out _; refine blk_far ?_ NB560_567.out _; refine blk_far ?_ NB560_567.out _; exact zB <| BK560.out))⟩; have n1_ : Aside0 (w16.heap[gb567]? = some (.cells #[.string t562, .int .i64 t563, .int .i64 t564, .int .i64 t565] 59 (0, 0))) := ⟨(by rw [hw]; exact (by refine blk_put (cs := #[.string t562, .int .i64 t563, .int .i64 t564, .int .i64 0]) ?_ 3 _ rfl; refine blk_put (cs := #[.string t562, .int .i64 t563, .int .i64 0, .int .i64 0]) ?_ 2 _ rfl; refine blk_put (cs := #[.string t562, .int .i64 0, .int .i64 0, .int .i64 0]) ?_ 1 _ rfl; refine blk_put (cs := #[.string (⟨#[]⟩ : ByteArray), .int .i64 0, .int .i64 0, .int .i64 0]) ?_ 0 _ rfl; exact zB <| BK567.out))⟩; have n2_ : Aside0 (Below w.heap.size w w16) := ⟨(by rw [hw]; exact (by repeat (first | (with_reducible first | exact HB.out | apply ba | apply bd | apply be | refine below_set ?_ GE560.out | refine below_set ?_ GE567.out) | exact HB.out)))⟩; clear hw BK560 BK567 HB; have BK560 := n0_; have BK567 := n1_; have HB := n2_; clear n0_ n1_ n2_; obtain ⟨hcz17_0, hcz17_1, hcz17_2, hcz17_3, hfz17_0, hfz17_1, hfz17_2, hfz17_3⟩ := b4 BK567.out; obtain ⟨hcz18_0, hcz18_1, hcz18_2, hfz18_0, hfz18_1, hfz18_2⟩ := b3 BK560.out) | ((with_reducible refine gate_callee (f := 53) rfl ?_); refine goesL_ (some 22) rfl rfl Try.func53 (by kernel_rfl) rfl #[.agg #[.string t562, .int .i64 t563, .int .i64 t564, .int .i64 t565], .agg #[.int .i64 a1_1, .int .i64 a1_2]] rfl mp2 ?_; (with_reducible refine (clusterlocksref04_Fits.calls t562 t563 t564 t565 a1_1 a1_2 true _ A7.out).mono ?_); rintro e w19 ⟨rfl, hb⟩; refine ⟨_, rfl, ?_⟩; have n0_ := am (blk_below (zB BK560.out) hb); have n1_ := am (blk_below (zB BK567.out) hb); have n2_ := am (below_step (zL HB.out) hb); clear BK560 BK567 HB; have BK560 := n0_; have BK567 := n1_; have HB := n2_; clear n0_ n1_ n2_; (try clear hb); (try clear hb2); (try clear hk); (try clear hi)))
    go_ret
    exact ⟨by first | rfl | (simp [errW_none, errW_some] <;> rfl) | (simp [*, errW_none, errW_some] <;> rfl), by repeat (first | (with_reducible first | exact HB.out | apply ba | apply bd | apply be | refine below_set ?_ GE560.out | refine below_set ?_ GE567.out) | exact HB.out)⟩
   ·replace c8 := Bool.eq_false_iff.mpr c8
    subst c8
    have H1 : (some 12) = some r := by rw [if_neg (show ¬ (false = true) by decide)] at H; exact H
    clear H
    have H := H1
    clear H1
    obtain rfl := Option.some.inj H
    go_enter Try.func39, Try.ntmps39
    go_wp2_with (first | ((with_reducible refine gate_dst (N := 3) rfl ?_); refine box_event ?hg (N := 3) ?hd (cs := #[.string a1_0, .int .i64 a1_1, .int .i64 a1_2]) (t := 25) ?hr ?_; (case hd => rfl); (case hg => rfl); (case hr => first | (go_simp; done) | (go_simp; rfl)); intro gb560 hg w20 hbox hb; have n0_ := am (below_step (zL HB.out) hb); have n1_ := am (hbox); have n2_ := am (zS hg HB.out); have n3_ := am (zS hg HB.out); clear HB; have HB := n0_; have BK560 := n1_; have GW560 := n2_; have GE560 := n3_; clear n0_ n1_ n2_ n3_; clear hb hbox hg) | ((with_reducible refine gate_callee (f := 51) rfl ?_); refine goesL_ (some 8) rfl rfl Try.func51 (by kernel_rfl) rfl #[.slice A0 l0.length c0] rfl mp1 ?_; (with_reducible refine (clusterlocksref05_Valid.calls k _ _ l0 true _ ?side1 ?side2 A3.out).mono ?_); (case side1 => exact zC (Kd.C_below HR0.out HB.out)); (case side2 => exact HC0.out); rintro e w21 ⟨rfl, hb⟩; refine ⟨_, rfl, ?_⟩; have n0_ := am (blk_below (zB BK560.out) hb); have n1_ := am (below_step (zL HB.out) hb); clear BK560 HB; have BK560 := n0_; have HB := n1_; clear n0_ n1_; (try clear hb); (try clear hb2); (try clear hk); (try clear hi); obtain ⟨hcz22_0, hcz22_1, hcz22_2, hfz22_0, hfz22_1, hfz22_2⟩ := b3 BK560.out) | ((with_reducible refine gate_callee (f := 52) rfl ?_); refine goesL_ (some 14) rfl rfl Try.func52 (by kernel_rfl) rfl #[.slice A0 l0.length c0, .string a1_0] rfl mp2 ?_; (with_reducible refine (clusterlocksref05_Find.calls k _ _ l0 a1_0 t562 t563 t564 t565 true _ ?side1 ?side2 A5.out).mono ?_); (case side1 => exact zC (Kd.C_below HR0.out HB.out)); (case side2 => exact HC0.out); rintro e w23 ⟨rfl, hb⟩; refine ⟨_, rfl, ?_⟩; have n0_ := am (blk_below (zB BK560.out) hb); have n1_ := am (below_step (zL HB.out) hb); clear BK560 HB; have BK560 := n0_; have HB := n1_; clear n0_ n1_; (try clear hb); (try clear hb2); (try clear hk); (try clear hi)) | ((with_reducible refine gate_dst (N := 5) rfl ?_); refine box_event ?hg (N := 5) ?hd (cs := #[.string (⟨#[]⟩ : ByteArray), .int .i64 0, .int .i64 0, .int .i64 0]) (t := 59) ?hr ?_; (case hd => rfl); (case hg => rfl); (case hr => first | (go_simp; done) | (go_simp; rfl)); intro gb567 hg w24 hbox hb; have n0_ := am (blk_below (zB BK560.out) hb); have n1_ := am (below_step (zL HB.out) hb); have n2_ := am (hbox); have n3_ := am (zS hg HB.out); have n4_ := am (zS hg HB.out); have n5_ := am (zN hg BK560.out); have n6_ := am (zM hg BK560.out); clear BK560 HB; have BK560 := n0_; have HB := n1_; have BK567 := n2_; have GW567 := n3_; have GE567 := n4_; have NB560_567 := n5_; have NB567_560 := n6_; clear n0_ n1_ n2_ n3_ n4_ n5_ n6_; clear hb hbox hg; have hnb25 := NB567_560.out; have hnc25 := NB560_567.out; obtain ⟨hcz26_0, hcz26_1, hcz26_2, hcz26_3, hfz26_0, hfz26_1, hfz26_2, hfz26_3⟩ := b4 BK567.out) | ((with_reducible refine gate_store (t := 59) (p := 5) rfl ?_); refine store_event (t := 59) (p := 5) (v := ?vo_w27) (w1 := ((((w24.setCell ⟨gb567, 0, none⟩ (.string t562)).setCell ⟨gb567, 1, none⟩ (.int .i64 t563)).setCell ⟨gb567, 2, none⟩ (.int .i64 t564)).setCell ⟨gb567, 3, none⟩ (.int .i64 t565))) ?hg ?ho ?hn ?hr ?_; (case ho => rfl); (case hg => rfl); (case hn => rfl); (case hr => first | (go_simp; done) | (go_simp; rfl)); intro w27 hw; have n0_ : Aside0 (w27.heap[gb560]? = some (.cells #[.string a1_0, .int .i64 a1_1, .int .i64 a1_2] 25 (0, 0))) := ⟨(by rw [hw]; exact (by refine blk_far ?_ NB560_567.out _; refine blk_far ?_ NB560_567.out _; refine blk_far ?_ NB560_567.out _; refine blk_far ?_ NB560_567.out _; exact zB <| BK560.out))⟩; have n1_ : Aside0 (w27.heap[gb567]? = some (.cells #[.string t562, .int .i64 t563, .int .i64 t564, .int .i64 t565] 59 (0, 0))) := ⟨(by rw [hw]; exact (by refine blk_put (cs := #[.string t562, .int .i64 t563, .int .i64 t564, .int .i64 0]) ?_ 3 _ rfl; refine blk_put (cs := #[.string t562, .int .i64 t563, .int .i64 0, .int .i64 0]) ?_ 2 _ rfl; refine blk_put (cs := #[.string t562, .int .i64 0, .int .i64 0, .int .i64 0]) ?_ 1 _ rfl; refine blk_put (cs := #[.string (⟨#[]⟩ : ByteArray), .int .i64 0, .int .i64 0, .int .i64 0]) ?_ 0 _ rfl; exact zB <| BK567.out))⟩; have n2_ : Aside0 (Below w.heap.size w w27) := ⟨(by rw [hw]; exact (by repeat (first | (with_reducible first | exact HB.out | apply ba | apply bd | apply be | refine below_set ?_ GE560.out | refine below_set ?_ GE567.out) | exact HB.out)))⟩; clear hw BK560 BK567 HB; have BK560 := n0_; have BK567 := n1_; have HB := n2_; clear n0_ n1_ n2_; obtain ⟨hcz28_0, hcz28_1, hcz28_2, hcz28_3, hfz28_0, hfz28_1, hfz28_2, hfz28_3⟩ := b4 BK567.out; obtain ⟨hcz29_0, hcz29_1, hcz29_2, hfz29_0, hfz29_1, hfz29_2⟩ := b3 BK560.out) | ((with_reducible refine gate_callee (f := 53) rfl ?_); refine goesL_ (some 22) rfl rfl Try.func53 (by kernel_rfl) rfl #[.agg #[.string t562, .int .i64 t563, .int .i64 t564, .int .i64 t565], .agg #[.int .i64 a1_1, .int .i64 a1_2]] rfl mp2 ?_; (with_reducible refine (clusterlocksref04_Fits.calls t562 t563 t564 t565 a1_1 a1_2 false _ A7.out).mono ?_); rintro e w30 ⟨rfl, hb⟩; refine ⟨_, rfl, ?_⟩; have n0_ := am (blk_below (zB BK560.out) hb); have n1_ := am (blk_below (zB BK567.out) hb); have n2_ := am (below_step (zL HB.out) hb); clear BK560 BK567 HB; have BK560 := n0_; have BK567 := n1_; have HB := n2_; clear n0_ n1_ n2_; (try clear hb); (try clear hb2); (try clear hk); (try clear hi)))
    go_ret
    exact ⟨by first | rfl | (simp [errW_none, errW_some] <;> rfl) | (simp [*, errW_none, errW_some] <;> rfl), by repeat (first | (with_reducible first | exact HB.out | apply ba | apply bd | apply be | refine below_set ?_ GE560.out | refine below_set ?_ GE567.out) | exact HB.out)⟩
  ·replace c6 := Bool.eq_false_iff.mpr c6
   subst c6
   have H1 : (some 10) = some r := by rw [if_neg (show ¬ (false = true) by decide)] at H; exact H
   clear H
   have H := H1
   clear H1
   obtain rfl := Option.some.inj H
   go_enter Try.func39, Try.ntmps39
   go_wp2_with (first | ((with_reducible refine gate_dst (N := 3) rfl ?_); refine box_event ?hg (N := 3) ?hd (cs := #[.string a1_0, .int .i64 a1_1, .int .i64 a1_2]) (t := 25) ?hr ?_; (case hd => rfl); (case hg => rfl); (case hr => first | (go_simp; done) | (go_simp; rfl)); intro gb560 hg w31 hbox hb; have n0_ := am (below_step (zL HB.out) hb); have n1_ := am (hbox); have n2_ := am (zS hg HB.out); have n3_ := am (zS hg HB.out); clear HB; have HB := n0_; have BK560 := n1_; have GW560 := n2_; have GE560 := n3_; clear n0_ n1_ n2_ n3_; clear hb hbox hg) | ((with_reducible refine gate_callee (f := 51) rfl ?_); refine goesL_ (some 8) rfl rfl Try.func51 (by kernel_rfl) rfl #[.slice A0 l0.length c0] rfl mp1 ?_; (with_reducible refine (clusterlocksref05_Valid.calls k _ _ l0 true _ ?side1 ?side2 A3.out).mono ?_); (case side1 => exact zC (Kd.C_below HR0.out HB.out)); (case side2 => exact HC0.out); rintro e w32 ⟨rfl, hb⟩; refine ⟨_, rfl, ?_⟩; have n0_ := am (blk_below (zB BK560.out) hb); have n1_ := am (below_step (zL HB.out) hb); clear BK560 HB; have BK560 := n0_; have HB := n1_; clear n0_ n1_; (try clear hb); (try clear hb2); (try clear hk); (try clear hi); obtain ⟨hcz33_0, hcz33_1, hcz33_2, hfz33_0, hfz33_1, hfz33_2⟩ := b3 BK560.out) | ((with_reducible refine gate_callee (f := 52) rfl ?_); refine goesL_ (some 14) rfl rfl Try.func52 (by kernel_rfl) rfl #[.slice A0 l0.length c0, .string a1_0] rfl mp2 ?_; (with_reducible refine (clusterlocksref05_Find.calls k _ _ l0 a1_0 t562 t563 t564 t565 false _ ?side1 ?side2 A5.out).mono ?_); (case side1 => exact zC (Kd.C_below HR0.out HB.out)); (case side2 => exact HC0.out); rintro e w34 ⟨rfl, hb⟩; refine ⟨_, rfl, ?_⟩; have n0_ := am (blk_below (zB BK560.out) hb); have n1_ := am (below_step (zL HB.out) hb); clear BK560 HB; have BK560 := n0_; have HB := n1_; clear n0_ n1_; (try clear hb); (try clear hb2); (try clear hk); (try clear hi)) | ((with_reducible refine gate_dst (N := 5) rfl ?_); refine box_event ?hg (N := 5) ?hd (cs := #[.string (⟨#[]⟩ : ByteArray), .int .i64 0, .int .i64 0, .int .i64 0]) (t := 59) ?hr ?_; (case hd => rfl); (case hg => rfl); (case hr => first | (go_simp; done) | (go_simp; rfl)); intro gb567 hg w35 hbox hb; have n0_ := am (blk_below (zB BK560.out) hb); have n1_ := am (below_step (zL HB.out) hb); have n2_ := am (hbox); have n3_ := am (zS hg HB.out); have n4_ := am (zS hg HB.out); have n5_ := am (zN hg BK560.out); have n6_ := am (zM hg BK560.out); clear BK560 HB; have BK560 := n0_; have HB := n1_; have BK567 := n2_; have GW567 := n3_; have GE567 := n4_; have NB560_567 := n5_; have NB567_560 := n6_; clear n0_ n1_ n2_ n3_ n4_ n5_ n6_; clear hb hbox hg; have hnb36 := NB567_560.out; have hnc36 := NB560_567.out; obtain ⟨hcz37_0, hcz37_1, hcz37_2, hcz37_3, hfz37_0, hfz37_1, hfz37_2, hfz37_3⟩ := b4 BK567.out) | ((with_reducible refine gate_store (t := 59) (p := 5) rfl ?_); refine store_event (t := 59) (p := 5) (v := ?vo_w38) (w1 := ((((w35.setCell ⟨gb567, 0, none⟩ (.string t562)).setCell ⟨gb567, 1, none⟩ (.int .i64 t563)).setCell ⟨gb567, 2, none⟩ (.int .i64 t564)).setCell ⟨gb567, 3, none⟩ (.int .i64 t565))) ?hg ?ho ?hn ?hr ?_; (case ho => rfl); (case hg => rfl); (case hn => rfl); (case hr => first | (go_simp; done) | (go_simp; rfl)); intro w38 hw; have n0_ : Aside0 (w38.heap[gb560]? = some (.cells #[.string a1_0, .int .i64 a1_1, .int .i64 a1_2] 25 (0, 0))) := ⟨(by rw [hw]; exact (by refine blk_far ?_ NB560_567.out _; refine blk_far ?_ NB560_567.out _; refine blk_far ?_ NB560_567.out _; refine blk_far ?_ NB560_567.out _; exact zB <| BK560.out))⟩; have n1_ : Aside0 (w38.heap[gb567]? = some (.cells #[.string t562, .int .i64 t563, .int .i64 t564, .int .i64 t565] 59 (0, 0))) := ⟨(by rw [hw]; exact (by refine blk_put (cs := #[.string t562, .int .i64 t563, .int .i64 t564, .int .i64 0]) ?_ 3 _ rfl; refine blk_put (cs := #[.string t562, .int .i64 t563, .int .i64 0, .int .i64 0]) ?_ 2 _ rfl; refine blk_put (cs := #[.string t562, .int .i64 0, .int .i64 0, .int .i64 0]) ?_ 1 _ rfl; refine blk_put (cs := #[.string (⟨#[]⟩ : ByteArray), .int .i64 0, .int .i64 0, .int .i64 0]) ?_ 0 _ rfl; exact zB <| BK567.out))⟩; have n2_ : Aside0 (Below w.heap.size w w38) := ⟨(by rw [hw]; exact (by repeat (first | (with_reducible first | exact HB.out | apply ba | apply bd | apply be | refine below_set ?_ GE560.out | refine below_set ?_ GE567.out) | exact HB.out)))⟩; clear hw BK560 BK567 HB; have BK560 := n0_; have BK567 := n1_; have HB := n2_; clear n0_ n1_ n2_))
   go_ret
   exact ⟨by first | rfl | (simp [errW_none, errW_some] <;> rfl) | (simp [*, errW_none, errW_some] <;> rfl), by repeat (first | (with_reducible first | exact HB.out | apply ba | apply bd | apply be | refine below_set ?_ GE560.out | refine below_set ?_ GE567.out) | exact HB.out)⟩
 ·replace c4 := Bool.eq_false_iff.mpr c4
  subst c4
  have H1 : (some 2) = some r := by rw [if_neg (show ¬ (false = true) by decide)] at H; exact H
  clear H
  have H := H1
  clear H1
  obtain rfl := Option.some.inj H
  go_enter Try.func39, Try.ntmps39
  go_wp2_with (first | ((with_reducible refine gate_dst (N := 3) rfl ?_); refine box_event ?hg (N := 3) ?hd (cs := #[.string a1_0, .int .i64 a1_1, .int .i64 a1_2]) (t := 25) ?hr ?_; (case hd => rfl); (case hg => rfl); (case hr => first | (go_simp; done) | (go_simp; rfl)); intro gb560 hg w39 hbox hb; have n0_ := am (below_step (zL HB.out) hb); have n1_ := am (hbox); have n2_ := am (zS hg HB.out); have n3_ := am (zS hg HB.out); clear HB; have HB := n0_; have BK560 := n1_; have GW560 := n2_; have GE560 := n3_; clear n0_ n1_ n2_ n3_; clear hb hbox hg) | ((with_reducible refine gate_callee (f := 51) rfl ?_); refine goesL_ (some 8) rfl rfl Try.func51 (by kernel_rfl) rfl #[.slice A0 l0.length c0] rfl mp1 ?_; (with_reducible refine (clusterlocksref05_Valid.calls k _ _ l0 false _ ?side1 ?side2 A3.out).mono ?_); (case side1 => exact zC (Kd.C_below HR0.out HB.out)); (case side2 => exact HC0.out); rintro e w40 ⟨rfl, hb⟩; refine ⟨_, rfl, ?_⟩; have n0_ := am (blk_below (zB BK560.out) hb); have n1_ := am (below_step (zL HB.out) hb); clear BK560 HB; have BK560 := n0_; have HB := n1_; clear n0_ n1_; (try clear hb); (try clear hb2); (try clear hk); (try clear hi)))
  go_ret
  exact ⟨by first | rfl | (simp [errW_none, errW_some] <;> rfl) | (simp [*, errW_none, errW_some] <;> rfl), by repeat (first | (with_reducible first | exact HB.out | apply ba | apply bd | apply be | refine below_set ?_ GE560.out) | exact HB.out)⟩

/-! ### clusterlocksref08_Resolve: function 29 -/
def clusterlocksref08_Resolve.l0 : Nat → List (S59) → List (S25) → Int → Option (Int)
 | 0, _, _, _ => none
 | k + 1, x0, x5, x7 => if x7 < (x5.length : Int) then (if 0 ≤ x7 then ((clusterlocksref05_Resolve.f k x0 ((rd_T25 x5 x7).f0) ((rd_T25 x5 x7).f1.f0) ((rd_T25 x5 x7).f1.f1)).bind fun t575 => (if t575 = 0 then (clusterlocksref08_Resolve.l0 k x0 x5 (wrap64 (x7 + 1))) else (some t575))) else (none)) else (some 0)
def clusterlocksref08_Resolve.f (k : Nat) (l0 : List (S59)) (a1_0 : Int) (a1_1 : ByteArray) (a1_2 : Int) (a1_3 : Int) (l1_4 : List (S28)) : Option (Int) := (clusterlocksref07_Atoms.f k a1_0 a1_1 a1_2 a1_3 l1_4).bind fun bt570 => (if bt570.2 = true then (clusterlocksref08_Resolve.l0 k l0 bt570.1 0) else (some 1))
theorem clusterlocksref08_Resolve.mono_l : ∀ k, (∀ y0 y1 y2, LeO (clusterlocksref08_Resolve.l0 k y0 y1 y2) (clusterlocksref08_Resolve.l0 (k + 1) y0 y1 y2))
 | 0 => fun _ _ _ r h => by simp [clusterlocksref08_Resolve.l0] at h
 | k + 1 => by
  have ih0 := clusterlocksref08_Resolve.mono_l k
  ·intro y0 y1 y2
   unfold clusterlocksref08_Resolve.l0
   repeat' first
   | (with_reducible exact ih0 _ _ _)
   | (with_reducible exact clusterlocksref05_Resolve.mono _ _ _ _ _)
   | (with_reducible exact clusterlocksref07_Atoms.mono _ _ _ _ _ _)
   | (with_reducible exact LeO.refl _)
   | (with_reducible exact LeO.none _)
   | (with_reducible refine LeO.ite ?_ ?_)
   | (with_reducible refine LeO.bind ?_ (fun _ => ?_))
   | exact ih0 _ _ _
   | exact clusterlocksref05_Resolve.mono _ _ _ _ _
   | exact clusterlocksref07_Atoms.mono _ _ _ _ _ _
   | exact LeO.none _
   | refine LeO.ite ?_ ?_
   | refine LeO.bind ?_ (fun _ => ?_)
theorem clusterlocksref08_Resolve.mono : ∀ a0 a1 a2 a3 a4 a5 k, LeO (clusterlocksref08_Resolve.f k a0 a1 a2 a3 a4 a5) (clusterlocksref08_Resolve.f (k + 1) a0 a1 a2 a3 a4 a5) := by
 intro a0 a1 a2 a3 a4 a5 k
 have ih0 := clusterlocksref08_Resolve.mono_l k
 unfold clusterlocksref08_Resolve.f
 repeat' first
   | (with_reducible exact ih0 _ _ _)
   | (with_reducible exact clusterlocksref05_Resolve.mono _ _ _ _ _)
   | (with_reducible exact clusterlocksref07_Atoms.mono _ _ _ _ _ _)
   | (with_reducible exact LeO.refl _)
   | (with_reducible exact LeO.none _)
   | (with_reducible refine LeO.ite ?_ ?_)
   | (with_reducible refine LeO.bind ?_ (fun _ => ?_))
   | exact ih0 _ _ _
   | exact clusterlocksref05_Resolve.mono _ _ _ _ _
   | exact clusterlocksref07_Atoms.mono _ _ _ _ _ _
   | exact LeO.none _
   | refine LeO.ite ?_ ?_
   | refine LeO.bind ?_ (fun _ => ?_)
set_option maxHeartbeats 8000000 in
set_option maxRecDepth 100000 in
theorem clusterlocksref08_Resolve.calls (k : Nat) (A0 : Option Addr) (c0 : Nat) (l0 : List (S59)) (a1_0 : Int) (a1_1 : ByteArray) (a1_2 : Int) (a1_3 : Int) (A1_4 : Option Addr) (c1_4 : Nat) (l1_4 : List (S28)) (r : Int) (w : World) (hr0 : Kd.C k59 w A0 l0.length l0) (hc0 : l0.length ≤ c0) (hr1_4 : Kd.C k28 w A1_4 l1_4.length l1_4) (hc1_4 : l1_4.length ≤ c1_4) (h : clusterlocksref08_Resolve.f k l0 a1_0 a1_1 a1_2 a1_3 l1_4 = some r) :
  Calls Try.prog 29 #[.slice A0 l0.length c0, .agg #[.int .i64 a1_0, .string a1_1, .int .i64 a1_2, .int .i64 a1_3, .slice A1_4 l1_4.length c1_4]] w fun e w' => e = .returned (.int .i64 r) ∧ Below w.heap.size w w' := by
 have hu28 := Try.underlying28
 have hu25 := Try.underlying25
 have HR0 := Aside0.mk hr0
 have HC0 := Aside0.mk hc0
 clear hr0 hc0
 have HR1_4 := Aside0.mk hr1_4
 have HC1_4 := Aside0.mk hc1_4
 clear hr1_4 hc1_4
 have HB := am (Below.refl w.heap.size w)
 have H : ((clusterlocksref07_Atoms.f k a1_0 a1_1 a1_2 a1_3 l1_4).bind fun bt570 => (if bt570.2 = true then (clusterlocksref08_Resolve.l0 k l0 bt570.1 0) else (some 1))) = some r := h
 clear h
 replace H := Option.bind_eq_some_iff.mp H
 obtain ⟨⟨t570, t573⟩, A30, H⟩ := H
 replace H : (if t573 = true then (clusterlocksref08_Resolve.l0 k l0 t570 0) else (some 1)) = some r := H
 have A3 := Aside0.mk A30
 clear A30
 by_cases c4 : t573 = true
 ·subst c4
  have H1 : (clusterlocksref08_Resolve.l0 k l0 t570 0) = some r := by rw [if_pos rfl] at H; exact H
  clear H
  have H := H1
  clear H1
  have H' := Aside0.mk H
  clear H
  go_enter Try.func29, Try.ntmps29
  go_wp2_with (first | ((with_reducible refine gate_dst (N := 3) rfl ?_); refine box_event ?hg (N := 3) ?hd (cs := #[.int .i64 a1_0, .string a1_1, .int .i64 a1_2, .int .i64 a1_3, .slice A1_4 l1_4.length c1_4]) (t := 28) ?hr ?_; (case hd => rfl); (case hg => rfl); (case hr => first | (go_simp; done) | (go_simp; rfl)); intro gb569 hg w5 hbox hb; have n0_ := am (below_step (zL HB.out) hb); have n1_ := am (hbox); have n2_ := am (zS hg HB.out); have n3_ := am (zS hg HB.out); clear HB; have HB := n0_; have BK569 := n1_; have GW569 := n2_; have GE569 := n3_; clear n0_ n1_ n2_ n3_; clear hb hbox hg; obtain ⟨hcz6_0, hcz6_1, hcz6_2, hcz6_3, hcz6_4, hfz6_0, hfz6_1, hfz6_2, hfz6_3, hfz6_4⟩ := b5 BK569.out) | ((with_reducible refine gate_callee (f := 32) rfl ?_); refine goesL_ (some 11) rfl rfl Try.func32 (by kernel_rfl) rfl #[.agg #[.int .i64 a1_0, .string a1_1, .int .i64 a1_2, .int .i64 a1_3, .slice A1_4 l1_4.length c1_4]] rfl mp1 ?_; (with_reducible refine (clusterlocksref07_Atoms.calls k a1_0 a1_1 a1_2 a1_3 _ _ l1_4 t570 true _ ?side1 ?side2 A3.out).mono ?_); (case side1 => exact zC (Kd.C_below HR1_4.out HB.out)); (case side2 => exact HC1_4.out); rintro e w7 ⟨v571, rfl, ho0, hb⟩; refine ⟨_, rfl, ?_⟩; have n0_ := am (Kd.R_lower ho0 (below_size (zL HB.out))); have n1_ := am (blk_below (zB BK569.out) hb); have n2_ := am (below_step (zL HB.out) hb); clear BK569 HB; have HO572 := n0_; have BK569 := n1_; have HB := n2_; clear n0_ n1_ n2_; (try clear hb); (try clear hb2); (try clear hk); (try clear hi); (try clear ho0)))
  go_loopg [7] k (fun kq v7 w' => ∃ (x7_1 : Int), v7 = .int .i64 x7_1 ∧ Aside0 (clusterlocksref08_Resolve.l0 kq l0 t570 x7_1 = some r) ∧ Aside0 (kq ≤ k) ∧ Aside0 (Kd.R k25 25 w' w.heap.size (fun _ => True) v571 t570) ∧ Aside0 (w'.heap[gb569]? = some (.cells #[.int .i64 a1_0, .string a1_1, .int .i64 a1_2, .int .i64 a1_3, (.slice A1_4 l1_4.length c1_4)] 28 (0, 0))) ∧ Aside0 (Below w.heap.size w w'))
  case atStart => exact ⟨(0), (by first | rfl | (simp; done) | (simp [*]; done)), H', ⟨Nat.le_refl _⟩, ⟨by exact zR HO572.out⟩, ⟨by exact zB <| BK569.out⟩, ⟨by repeat (first | (with_reducible first | exact HB.out | apply ba | apply bd | apply be | refine below_set ?_ GE569.out) | exact HB.out)⟩⟩
  case round =>
   clear H'
   try clear c1
   try clear c2
   try clear p2
   try clear c3
   try clear c4
   try clear hcz6_0
   try clear hcz6_1
   try clear hcz6_2
   try clear hcz6_3
   try clear hcz6_4
   try clear hfz6_0
   try clear hfz6_1
   try clear hfz6_2
   try clear hfz6_3
   try clear hfz6_4
   obtain ⟨x7_1, rfl, HA, HK1, HO_5, BK569, HB⟩ := hrel
   cases gk with
   | zero => exact absurd HA.out (by simp [clusterlocksref08_Resolve.l0])
   | succ k1 =>
    have H := HA.out
    clear HA
    simp only [clusterlocksref08_Resolve.l0] at H
    by_cases c8 : x7_1 < (t570.length : Int)
    ·rw [if_pos c8] at H
     have c8b0 : decide (x7_1 < (t570.length : Int)) = true := decide_eq_true c8
     clear c8
     by_cases c9 : 0 ≤ x7_1
     ·rw [if_pos c9] at H
      have c9b0 : decide (0 ≤ x7_1) = true := decide_eq_true c9
      clear c9
      replace H := Option.bind_eq_some_iff.mp H
      obtain ⟨t575, A100, H⟩ := H
      replace H : (if t575 = 0 then (clusterlocksref08_Resolve.l0 k1 l0 t570 (wrap64 (x7_1 + 1))) else (some t575)) = some r := H
      have A10 := Aside0.mk A100
      clear A100
      by_cases c11 : t575 = 0
      ·rw [if_pos c11] at H
       have c11b0 : (t575 == 0) = true := beq_iff_eq.mpr c11
       have c11b1 : (t575 != 0) = false := bne_eq_false_iff_eq.mpr c11
       clear c11
       have H' := Aside0.mk H
       clear H
       obtain ⟨Ao12, co12, eo12⟩ := Kd.R_slice HO_5.out
       subst eo12
       have p574 : 0 ≤ (x7_1 : Int) := of_decide_eq_true (by first | (with_reducible assumption) | assumption)
       have q574 : x7_1 < (t570.length : Int) := of_decide_eq_true (by first | (with_reducible assumption) | assumption)
       obtain ⟨ad574, e574, hx574_0, hx574_1, hx574_2⟩ := at_T25 (Kd.R_reads' HO_5.out).2.2 x7_1 p574 q574
       cases e574
       replace p574 := eq_true p574
       replace q574 := eq_true q574
       go_wp2_with (first | ((with_reducible refine gate_callee (f := 39) rfl ?_); refine goesL_ (some 27) rfl rfl Try.func39 (by kernel_rfl) rfl #[.slice A0 l0.length c0, .agg #[.string ((rd_T25 t570 x7_1).f0), .int .i64 ((rd_T25 t570 x7_1).f1.f0), .int .i64 ((rd_T25 t570 x7_1).f1.f1)]] rfl mp2 ?_; (with_reducible refine (clusterlocksref05_Resolve.calls k1 _ _ l0 ((rd_T25 t570 x7_1).f0) ((rd_T25 t570 x7_1).f1.f0) ((rd_T25 t570 x7_1).f1.f1) t575 _ ?side1 ?side2 A10.out).mono ?_); (case side1 => exact zC (Kd.C_below HR0.out HB.out)); (case side2 => exact HC0.out); rintro e w13 ⟨rfl, hb⟩; refine ⟨_, rfl, ?_⟩; have n0_ := am (Kd.R_below (zR HO_5.out) hb); have n1_ := am (blk_below (zB BK569.out) hb); have n2_ := am (below_step (zL HB.out) hb); clear HO_5 BK569 HB; have HO_5 := n0_; have BK569 := n1_; have HB := n2_; clear n0_ n1_ n2_; (try clear hb); (try clear hb2); (try clear hk); (try clear hi)))
       go_roundg k1
       case measure => have := HK1.out; omega
       case rel => exact ⟨(wrap64 (x7_1 + 1)), (by first | rfl | (simp; done) | (simp [*]; done)), H', ⟨by have := HK1.out; omega⟩, ⟨by exact zR HO_5.out⟩, ⟨by exact zB <| BK569.out⟩, ⟨by repeat (first | (with_reducible first | exact HB.out | apply ba | apply bd | apply be | refine below_set ?_ GE569.out) | exact HB.out)⟩⟩
      ·rw [if_neg c11] at H
       have c11b0 : (t575 == 0) = false := beq_eq_false_iff_ne.mpr c11
       have c11b1 : (t575 != 0) = true := bne_iff_ne.mpr c11
       obtain rfl := Option.some.inj H
       obtain ⟨Ao14, co14, eo14⟩ := Kd.R_slice HO_5.out
       subst eo14
       have p574 : 0 ≤ (x7_1 : Int) := of_decide_eq_true (by first | (with_reducible assumption) | assumption)
       have q574 : x7_1 < (t570.length : Int) := of_decide_eq_true (by first | (with_reducible assumption) | assumption)
       obtain ⟨ad574, e574, hx574_0, hx574_1, hx574_2⟩ := at_T25 (Kd.R_reads' HO_5.out).2.2 x7_1 p574 q574
       cases e574
       replace p574 := eq_true p574
       replace q574 := eq_true q574
       go_wp2_with (first | ((with_reducible refine gate_callee (f := 39) rfl ?_); refine goesL_ (some 27) rfl rfl Try.func39 (by kernel_rfl) rfl #[.slice A0 l0.length c0, .agg #[.string ((rd_T25 t570 x7_1).f0), .int .i64 ((rd_T25 t570 x7_1).f1.f0), .int .i64 ((rd_T25 t570 x7_1).f1.f1)]] rfl mp2 ?_; (with_reducible refine (clusterlocksref05_Resolve.calls k1 _ _ l0 ((rd_T25 t570 x7_1).f0) ((rd_T25 t570 x7_1).f1.f0) ((rd_T25 t570 x7_1).f1.f1) t575 _ ?side1 ?side2 A10.out).mono ?_); (case side1 => exact zC (Kd.C_below HR0.out HB.out)); (case side2 => exact HC0.out); rintro e w15 ⟨rfl, hb⟩; refine ⟨_, rfl, ?_⟩; have n0_ := am (Kd.R_below (zR HO_5.out) hb); have n1_ := am (blk_below (zB BK569.out) hb); have n2_ := am (below_step (zL HB.out) hb); clear HO_5 BK569 HB; have HO_5 := n0_; have BK569 := n1_; have HB := n2_; clear n0_ n1_ n2_; (try clear hb); (try clear hb2); (try clear hk); (try clear hi)))
       go_ret
       exact ⟨by first | rfl | (simp [errW_none, errW_some] <;> rfl) | (simp [*, errW_none, errW_some] <;> rfl), by repeat (first | (with_reducible first | exact HB.out | apply ba | apply bd | apply be | refine below_set ?_ GE569.out) | exact HB.out)⟩
     ·rw [if_neg c9] at H
      exact absurd H (by simp)
    ·rw [if_neg c8] at H
     have c8b0 : decide (x7_1 < (t570.length : Int)) = false := decide_eq_false c8
     clear c8
     obtain rfl := Option.some.inj H
     obtain ⟨Ao16, co16, eo16⟩ := Kd.R_slice HO_5.out
     subst eo16
     go_wp2
     go_ret
     exact ⟨by first | rfl | (simp [errW_none, errW_some] <;> rfl) | (simp [*, errW_none, errW_some] <;> rfl), by repeat (first | (with_reducible first | exact HB.out | apply ba | apply bd | apply be | refine below_set ?_ GE569.out) | exact HB.out)⟩
 ·replace c4 := Bool.eq_false_iff.mpr c4
  subst c4
  have H1 : (some 1) = some r := by rw [if_neg (show ¬ (false = true) by decide)] at H; exact H
  clear H
  have H := H1
  clear H1
  obtain rfl := Option.some.inj H
  go_enter Try.func29, Try.ntmps29
  go_wp2_with (first | ((with_reducible refine gate_dst (N := 3) rfl ?_); refine box_event ?hg (N := 3) ?hd (cs := #[.int .i64 a1_0, .string a1_1, .int .i64 a1_2, .int .i64 a1_3, .slice A1_4 l1_4.length c1_4]) (t := 28) ?hr ?_; (case hd => rfl); (case hg => rfl); (case hr => first | (go_simp; done) | (go_simp; rfl)); intro gb569 hg w17 hbox hb; have n0_ := am (below_step (zL HB.out) hb); have n1_ := am (hbox); have n2_ := am (zS hg HB.out); have n3_ := am (zS hg HB.out); clear HB; have HB := n0_; have BK569 := n1_; have GW569 := n2_; have GE569 := n3_; clear n0_ n1_ n2_ n3_; clear hb hbox hg; obtain ⟨hcz18_0, hcz18_1, hcz18_2, hcz18_3, hcz18_4, hfz18_0, hfz18_1, hfz18_2, hfz18_3, hfz18_4⟩ := b5 BK569.out) | ((with_reducible refine gate_callee (f := 32) rfl ?_); refine goesL_ (some 11) rfl rfl Try.func32 (by kernel_rfl) rfl #[.agg #[.int .i64 a1_0, .string a1_1, .int .i64 a1_2, .int .i64 a1_3, .slice A1_4 l1_4.length c1_4]] rfl mp1 ?_; (with_reducible refine (clusterlocksref07_Atoms.calls k a1_0 a1_1 a1_2 a1_3 _ _ l1_4 t570 false _ ?side1 ?side2 A3.out).mono ?_); (case side1 => exact zC (Kd.C_below HR1_4.out HB.out)); (case side2 => exact HC1_4.out); rintro e w19 ⟨v571, rfl, ho0, hb⟩; refine ⟨_, rfl, ?_⟩; have n0_ := am (Kd.R_lower ho0 (below_size (zL HB.out))); have n1_ := am (blk_below (zB BK569.out) hb); have n2_ := am (below_step (zL HB.out) hb); clear BK569 HB; have HO572 := n0_; have BK569 := n1_; have HB := n2_; clear n0_ n1_ n2_; (try clear hb); (try clear hb2); (try clear hk); (try clear hi); (try clear ho0)))
  go_ret
  exact ⟨by first | rfl | (simp [errW_none, errW_some] <;> rfl) | (simp [*, errW_none, errW_some] <;> rfl), by repeat (first | (with_reducible first | exact HB.out | apply ba | apply bd | apply be | refine below_set ?_ GE569.out) | exact HB.out)⟩

end Go.Proofs.Ytefbcebpokoinaa.Y

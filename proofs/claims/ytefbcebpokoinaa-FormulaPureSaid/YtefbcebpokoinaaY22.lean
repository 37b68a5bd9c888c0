-- Laid by a program of this session's (xprint.py, which runs the kit's print.py with patches of its own). Lean checks it.
import Derived.Test.YtefbcebpokoinaaY0
import Derived.Test.YtefbcebpokoinaaY9
import Derived.Test.YtefbcebpokoinaaY10
namespace Go.Proofs.Ytefbcebpokoinaa.Y
open Go.RowKit Go.Proofs.YtefbcebpokoinaaW.PrintWords Go.Proofs.YtefbcebpokoinaaW.PrintLast Go.Proofs.YtefbcebpokoinaaW.PrintMore
attribute [local go_sem] max2_int min2_int max_two min_two max_three min_three max_four min_four   -- for this text's walks alone
set_option linter.unusedVariables false
set_option linter.unusedSimpArgs false

/-! ### clusterlockslaw08_FormulaPure: function 9 -/
mutual
def clusterlockslaw08_FormulaPure.j0 : Nat → Int → Int → Bool → Option (Bool)
 | 0, _, _, _ => none
 | k + 1, x0, x1, x22 => if x22 = true then ((clusterlockslaw08_awake.f k).bind fun t498 => (some t498)) else (clusterlockslaw08_FormulaPure.l0 k x0 x1 0 x1 (⟨#[]⟩ : ByteArray) 0 0 ([] : List (S28)))
def clusterlockslaw08_FormulaPure.l0 : Nat → Int → Int → Int → Int → ByteArray → Int → Int → List (S28) → Option (Bool)
 | 0, _, _, _, _, _, _, _, _ => none
 | k + 1, x0, x1, x6, x500000, x500001, x500002, x500003, x500004 => if x6 < x0 then ((clusterlockslaw08_atom.f (strOfNums (([(wrap64 (97 + x6)) % 256] : List Int)))).bind fun bt503 => (if x500004.length < 2199023255552 then (clusterlockslaw08_FormulaPure.l0 k x0 x1 (wrap64 (x6 + 1)) x500000 x500001 x500002 x500003 (x500004 ++ [(⟨bt503.1, (⟨bt503.2.1, (⟨bt503.2.2.1, bt503.2.2.2.1⟩ : S23)⟩ : S25), bt503.2.2.2.2⟩ : S28)])) else (none))) else (if x1 = x0 then ((clusterlockslaw08_awake.f k).bind fun t513 => (if t513 = true then ((formula_Class.f k x500000 x500001 x500002 x500003 x500004).bind fun t514 => (some (t514 == 2))) else (none))) else (if x1 = 1 then ((clusterlockslaw08_awake.f k).bind fun t515 => (if t515 = true then ((formula_Class.f k x500000 x500001 x500002 x500003 x500004).bind fun t516 => (some (t516 == 3))) else (none))) else ((clusterlockslaw08_awake.f k).bind fun t517 => (if t517 = true then ((formula_Class.f k x500000 x500001 x500002 x500003 x500004).bind fun t518 => (some (t518 == 4))) else (none)))))
end
def clusterlockslaw08_FormulaPure.f (k : Nat) (a0 : Int) (a1 : Int) : Option (Bool) := if a0 < 2 then (clusterlockslaw08_FormulaPure.j0 k a0 a1 true) else (if a0 > 8 then (clusterlockslaw08_FormulaPure.j0 k a0 a1 true) else (if a1 < 1 then (clusterlockslaw08_FormulaPure.j0 k a0 a1 true) else (clusterlockslaw08_FormulaPure.j0 k a0 a1 (decide (a1 > a0)))))
theorem clusterlockslaw08_FormulaPure.mono_l : ∀ k, (∀ y0 y1 y2, LeO (clusterlockslaw08_FormulaPure.j0 k y0 y1 y2) (clusterlockslaw08_FormulaPure.j0 (k + 1) y0 y1 y2)) ∧ (∀ y0 y1 y2 y3 y4 y5 y6 y7, LeO (clusterlockslaw08_FormulaPure.l0 k y0 y1 y2 y3 y4 y5 y6 y7) (clusterlockslaw08_FormulaPure.l0 (k + 1) y0 y1 y2 y3 y4 y5 y6 y7))
 | 0 => ⟨fun _ _ _ r h => by simp [clusterlockslaw08_FormulaPure.j0] at h, fun _ _ _ _ _ _ _ _ r h => by simp [clusterlockslaw08_FormulaPure.l0] at h⟩
 | k + 1 => by
  obtain ⟨ih0, ih1⟩ := clusterlockslaw08_FormulaPure.mono_l k
  refine ⟨?_, ?_⟩
  ·intro y0 y1 y2
   unfold clusterlockslaw08_FormulaPure.j0
   repeat' first
   | (with_reducible exact ih0 _ _ _)
   | (with_reducible exact ih1 _ _ _ _ _ _ _ _)
   | (with_reducible exact clusterlockslaw08_awake.mono _)
   | (with_reducible exact formula_Class.mono _ _ _ _ _ _)
   | (with_reducible exact LeO.refl _)
   | (with_reducible exact LeO.none _)
   | (with_reducible refine LeO.ite ?_ ?_)
   | (with_reducible refine LeO.bind ?_ (fun _ => ?_))
   | exact ih0 _ _ _
   | exact ih1 _ _ _ _ _ _ _ _
   | exact clusterlockslaw08_awake.mono _
   | exact formula_Class.mono _ _ _ _ _ _
   | exact LeO.none _
   | refine LeO.ite ?_ ?_
   | refine LeO.bind ?_ (fun _ => ?_)
  ·intro y0 y1 y2 y3 y4 y5 y6 y7
   unfold clusterlockslaw08_FormulaPure.l0
   repeat' first
   | (with_reducible exact ih0 _ _ _)
   | (with_reducible exact ih1 _ _ _ _ _ _ _ _)
   | (with_reducible exact clusterlockslaw08_awake.mono _)
   | (with_reducible exact formula_Class.mono _ _ _ _ _ _)
   | (with_reducible exact LeO.refl _)
   | (with_reducible exact LeO.none _)
   | (with_reducible refine LeO.ite ?_ ?_)
   | (with_reducible refine LeO.bind ?_ (fun _ => ?_))
   | exact ih0 _ _ _
   | exact ih1 _ _ _ _ _ _ _ _
   | exact clusterlockslaw08_awake.mono _
   | exact formula_Class.mono _ _ _ _ _ _
   | exact LeO.none _
   | refine LeO.ite ?_ ?_
   | refine LeO.bind ?_ (fun _ => ?_)
theorem clusterlockslaw08_FormulaPure.mono : ∀ a0 a1 k, LeO (clusterlockslaw08_FormulaPure.f k a0 a1) (clusterlockslaw08_FormulaPure.f (k + 1) a0 a1) := by
 intro a0 a1 k
 obtain ⟨ih0, ih1⟩ := clusterlockslaw08_FormulaPure.mono_l k
 unfold clusterlockslaw08_FormulaPure.f
 repeat' first
   | (with_reducible exact ih0 _ _ _)
   | (with_reducible exact ih1 _ _ _ _ _ _ _ _)
   | (with_reducible exact clusterlockslaw08_awake.mono _)
   | (with_reducible exact formula_Class.mono _ _ _ _ _ _)
   | (with_reducible exact LeO.refl _)
   | (with_reducible exact LeO.none _)
   | (with_reducible refine LeO.ite ?_ ?_)
   | (with_reducible refine LeO.bind ?_ (fun _ => ?_))
   | exact ih0 _ _ _
   | exact ih1 _ _ _ _ _ _ _ _
   | exact clusterlockslaw08_awake.mono _
   | exact formula_Class.mono _ _ _ _ _ _
   | exact LeO.none _
   | refine LeO.ite ?_ ?_
   | refine LeO.bind ?_ (fun _ => ?_)
def clusterlockslaw08_FormulaPure.T7 : Bool × List (List Nat × List Nat) := (true, [([], []), ([0], [0]), ([], []), ([2], [2]), ([3], [3]), ([4], [4]), ([5], [5]), ([6], [6]), ([7], [7]), ([1, 8, 7], [1, 8]), ([0, 1, 2, 3, 4, 5, 6, 7, 8, 9], []), ([10, 9, 9, 0, 1, 2, 3, 4, 5, 6, 7, 8, 9], [9, 10])])
def clusterlockslaw08_FormulaPure.B7 : List Nat := [0, 1, 0, 4, 12, 28, 60, 124, 252, 511, 1023, 2047]
theorem clusterlockslaw08_FormulaPure.tab7 : rtab .any (opsOf Try.f9 7) = clusterlockslaw08_FormulaPure.T7 := by kernel_rfl
theorem clusterlockslaw08_FormulaPure.bits7 : waitsOk clusterlockslaw08_FormulaPure.T7.2 clusterlockslaw08_FormulaPure.B7 = true := by kernel_rfl
set_option maxHeartbeats 8000000 in
set_option maxRecDepth 100000 in
theorem clusterlockslaw08_FormulaPure.calls (k : Nat) (a0 : Int) (a1 : Int) (r : Bool) (w : World) (h : clusterlockslaw08_FormulaPure.f k a0 a1 = some r) :
  Calls Try.prog 9 #[.int .i64 a0, .int .i64 a1] w fun e w' => e = .returned (.bool r) ∧ Below w.heap.size w w' := by
 have hu28 := Try.underlying28
 have HB := am (Below.refl w.heap.size w)
 have H : (if a0 < 2 then (clusterlockslaw08_FormulaPure.j0 k a0 a1 true) else (if a0 > 8 then (clusterlockslaw08_FormulaPure.j0 k a0 a1 true) else (if a1 < 1 then (clusterlockslaw08_FormulaPure.j0 k a0 a1 true) else (clusterlockslaw08_FormulaPure.j0 k a0 a1 (decide (a1 > a0)))))) = some r := h
 clear h
 have HC3 := Aside0.mk H
 clear H
 go_enter Try.func9, Try.ntmps9
 go_upto_region 1 with (fail)
 go_cut [22] (fun v22 wc => ∃ (kq : Nat) (x22_2 : Bool), v22 = .bool x22_2 ∧ Aside0 (clusterlockslaw08_FormulaPure.j0 kq a0 a1 x22_2 = some r) ∧ Aside0 (kq ≤ k) ∧ Aside0 (Below w.heap.size w wc))
 case first =>
  have H := HC3.out
  clear HC3
  by_cases c4 : a0 < 2
  ·rw [if_pos c4] at H
   have c4b0 : decide (a0 < 2) = true := decide_eq_true c4
   clear c4
   (first | rw [c4b0] | (simp only [i64_w, i32_w]; rw [c4b0]) | skip)
   have H' := Aside0.mk H
   clear H
   go_wp2
   go_meet
   case rel => exact ⟨_, (true), (by first | rfl | (simp; done) | (simp [*]; done)), H', ⟨by first | omega | exact Nat.le_refl _⟩, ⟨zL HB.out⟩⟩
  ·rw [if_neg c4] at H
   have c4b0 : decide (a0 < 2) = false := decide_eq_false c4
   clear c4
   (first | rw [c4b0] | (simp only [i64_w, i32_w]; rw [c4b0]) | skip)
   by_cases c5 : a0 > 8
   ·rw [if_pos c5] at H
    have c5b0 : decide (8 < a0) = true := decide_eq_true c5
    clear c5
    have H' := Aside0.mk H
    clear H
    go_wp2
    go_meet
    case rel => exact ⟨_, (true), (by first | rfl | (simp; done) | (simp [*]; done)), H', ⟨by first | omega | exact Nat.le_refl _⟩, ⟨zL HB.out⟩⟩
   ·rw [if_neg c5] at H
    have c5b0 : decide (8 < a0) = false := decide_eq_false c5
    clear c5
    by_cases c6 : a1 < 1
    ·rw [if_pos c6] at H
     have c6b0 : decide (a1 < 1) = true := decide_eq_true c6
     clear c6
     have H' := Aside0.mk H
     clear H
     go_wp2
     go_meet
     case rel => exact ⟨_, (true), (by first | rfl | (simp; done) | (simp [*]; done)), H', ⟨by first | omega | exact Nat.le_refl _⟩, ⟨zL HB.out⟩⟩
    ·rw [if_neg c6] at H
     have c6b0 : decide (a1 < 1) = false := decide_eq_false c6
     clear c6
     have H' := Aside0.mk H
     clear H
     go_wp2
     go_meet
     case rel => exact ⟨_, (decide (a1 > a0)), (by first | rfl | (simp; done) | (simp [*]; done)), H', ⟨by first | omega | exact Nat.le_refl _⟩, ⟨zL HB.out⟩⟩
 case rest =>
  clear HC3
  try clear p2
  try clear c4
  try clear c4b0
  try clear c5
  try clear c5b0
  try clear c6
  try clear c6b0
  obtain ⟨kq, x22_2, rfl, HA, HJ2, HB⟩ := hcut
  cases kq with
  | zero => exact absurd HA.out (by simp [clusterlockslaw08_FormulaPure.j0])
  | succ kj2 =>
   have H := HA.out
   clear HA
   simp only [clusterlockslaw08_FormulaPure.j0] at H
   by_cases c7 : x22_2 = true
   ·subst c7
    have H1 : ((clusterlockslaw08_awake.f kj2).bind fun t498 => (some t498)) = some r := by rw [if_pos rfl] at H; exact H
    clear H
    have H := H1
    clear H1
    replace H := Option.bind_eq_some_iff.mp H
    obtain ⟨t498, A80, H⟩ := H
    replace H : (some t498) = some r := H
    have A8 := Aside0.mk A80
    clear A80
    obtain rfl := Option.some.inj H
    go_wp2_with (first | ((with_reducible refine gate_callee (f := 14) rfl ?_); refine goesL_ (some 23) rfl rfl Try.func14 (by kernel_rfl) rfl #[] rfl (by (try simp only [List.map_toArray, List.map_cons, List.map_nil]); first | done | rfl | (simp only [List.length_drop, List.length_take]; rfl)) ?_; (with_reducible refine (clusterlockslaw08_awake.calls kj2  t498 _ A8.out).mono ?_); rintro e w9 ⟨rfl, hb⟩; refine ⟨_, rfl, ?_⟩; have n0_ := am (below_step (zL HB.out) hb); clear HB; have HB := n0_; clear n0_; (try clear hb); (try clear hb2); (try clear hk); (try clear hi)))
    go_ret
    exact ⟨by first | rfl | (simp [errW_none, errW_some] <;> rfl) | (simp [*, errW_none, errW_some] <;> rfl), zL HB.out⟩
   ·replace c7 := Bool.eq_false_iff.mpr c7
    subst c7
    have H1 : (clusterlockslaw08_FormulaPure.l0 kj2 a0 a1 0 a1 (⟨#[]⟩ : ByteArray) 0 0 ([] : List (S28))) = some r := by rw [if_neg (show ¬ (false = true) by decide)] at H; exact H
    clear H
    have H := H1
    clear H1
    have H' := Aside0.mk H
    clear H
    go_wp2_with (first | ((with_reducible refine gate_dst (N := 5) rfl ?_); refine box_event ?hg (N := 5) ?hd (cs := #[.int .i64 0, .string (⟨#[]⟩ : ByteArray), .int .i64 0, .int .i64 0, .slice none 0 0]) (t := 28) ?hr ?_; (case hd => rfl); (case hg => rfl); (case hr => first | (go_simp; done) | (go_simp; rfl)); intro gb499 hg w10 hbox hb; have n0_ := am (below_step (zL HB.out) hb); have n1_ := am (hbox); have n2_ := am (zS hg HB.out); have n3_ := am (zS hg HB.out); clear HB; have HB := n0_; have BK499 := n1_; have GW499 := n2_; have GE499 := n3_; clear n0_ n1_ n2_ n3_; clear hb hbox hg; have hcz11_0 : w10.cell? ⟨gb499, 0, none⟩ = some (.int .i64 0) := (blk_cell BK499.out 0).trans rfl; have hcz11_1 : w10.cell? ⟨gb499, 1, none⟩ = some (.string (⟨#[]⟩ : ByteArray)) := (blk_cell BK499.out 1).trans rfl; have hcz11_2 : w10.cell? ⟨gb499, 2, none⟩ = some (.int .i64 0) := (blk_cell BK499.out 2).trans rfl; have hcz11_3 : w10.cell? ⟨gb499, 3, none⟩ = some (.int .i64 0) := (blk_cell BK499.out 3).trans rfl; have hcz11_4 : w10.cell? ⟨gb499, 4, none⟩ = some (.slice none 0 0) := (blk_cell BK499.out 4).trans rfl; have hfz11_0 := blk_frozen BK499.out 0; have hfz11_1 := blk_frozen BK499.out 1; have hfz11_2 := blk_frozen BK499.out 2; have hfz11_3 := blk_frozen BK499.out 3; have hfz11_4 := blk_frozen BK499.out 4) | ((with_reducible refine gate_store (t := 28) (p := 5) rfl ?_); refine store_event (t := 28) (p := 5) (v := ?vo_w12) (w1 := (((((w10.setCell ⟨gb499, 0, none⟩ (.int .i64 a1)).setCell ⟨gb499, 1, none⟩ (.string (⟨#[]⟩ : ByteArray))).setCell ⟨gb499, 2, none⟩ (.int .i64 0)).setCell ⟨gb499, 3, none⟩ (.int .i64 0)).setCell ⟨gb499, 4, none⟩ (.slice none 0 0))) ?hg ?ho ?hn ?hr ?_; (case ho => rfl); (case hg => rfl); (case hn => rfl); (case hr => first | (go_simp; done) | (go_simp; rfl)); intro w12 hw; have n0_ : Aside0 (w12.heap[gb499]? = some (.cells #[.int .i64 a1, .string (⟨#[]⟩ : ByteArray), .int .i64 0, .int .i64 0, .slice none 0 0] 28 (0, 0))) := ⟨(by rw [hw]; exact (by refine blk_put (cs := #[.int .i64 a1, .string (⟨#[]⟩ : ByteArray), .int .i64 0, .int .i64 0, .slice none 0 0]) ?_ 4 _ rfl; refine blk_put (cs := #[.int .i64 a1, .string (⟨#[]⟩ : ByteArray), .int .i64 0, .int .i64 0, .slice none 0 0]) ?_ 3 _ rfl; refine blk_put (cs := #[.int .i64 a1, .string (⟨#[]⟩ : ByteArray), .int .i64 0, .int .i64 0, .slice none 0 0]) ?_ 2 _ rfl; refine blk_put (cs := #[.int .i64 a1, .string (⟨#[]⟩ : ByteArray), .int .i64 0, .int .i64 0, .slice none 0 0]) ?_ 1 _ rfl; refine blk_put (cs := #[.int .i64 0, .string (⟨#[]⟩ : ByteArray), .int .i64 0, .int .i64 0, .slice none 0 0]) ?_ 0 _ rfl; exact zB <| BK499.out))⟩; have n1_ : Aside0 (Below w.heap.size w w12) := ⟨(by rw [hw]; exact (by repeat (first | (with_reducible first | exact HB.out | apply ba | apply bd | apply be | refine below_set ?_ GE499.out) | exact HB.out)))⟩; clear hw BK499 HB; have BK499 := n0_; have HB := n1_; clear n0_ n1_))
    go_loopg [6] kj2 (fun kq v6 w' => ∃ (x6_2 : Int) (x500004_2 : List (S28)) (u500004 : Value), v6 = .int .i64 x6_2 ∧ Aside0 (clusterlockslaw08_FormulaPure.l0 kq a0 a1 x6_2 a1 (⟨#[]⟩ : ByteArray) 0 0 x500004_2 = some r) ∧ Aside0 (kq ≤ kj2) ∧ Aside0 (Kd.R k28 28 w' w.heap.size (fun k_ => k_ ≠ gb499) u500004 x500004_2) ∧ Aside0 (w'.heap[gb499]? = some (.cells #[.int .i64 a1, .string (⟨#[]⟩ : ByteArray), .int .i64 0, .int .i64 0, u500004] 28 (0, 0))) ∧ Aside0 (Below w.heap.size w w'))
    case atStart => exact ⟨(0), (([] : List (S28))), (.slice none 0 0), (by first | rfl | (simp; done) | (simp [*]; done)), H', ⟨Nat.le_refl _⟩, ⟨by first | exact Kd.R_nil _ _ _ _ _ | exact Kd.N_nil _ _ _ _ _ | exact Kd.V_nil _ _ _ _ _ | exact Kd.Q_nil _ _ _ _ _ | exact Kd.S_nil _ _ _ _ _⟩, ⟨by exact zB <| BK499.out⟩, ⟨by repeat (first | (with_reducible first | exact HB.out | apply ba | apply bd | apply be | refine below_set ?_ GE499.out) | exact HB.out)⟩⟩
    case round =>
     clear H'
     try clear c1
     try clear p2
     try clear c4
     try clear c4b0
     try clear c5
     try clear c5b0
     try clear c6
     try clear c6b0
     try clear c7
     try clear c9
     try clear hcz11_0
     try clear hcz11_1
     try clear hcz11_2
     try clear hcz11_3
     try clear hcz11_4
     try clear hfz11_0
     try clear hfz11_1
     try clear hfz11_2
     try clear hfz11_3
     try clear hfz11_4
     try clear p2
     obtain ⟨x6_2, x500004_2, u500004, rfl, HA, HK2, HO_500004, BK499, HB⟩ := hrel
     cases gk with
     | zero => exact absurd HA.out (by simp [clusterlockslaw08_FormulaPure.l0])
     | succ k2 =>
      have H := HA.out
      clear HA
      simp only [clusterlockslaw08_FormulaPure.l0] at H
      by_cases c13 : x6_2 < a0
      ·rw [if_pos c13] at H
       have c13b0 : decide (x6_2 < a0) = true := decide_eq_true c13
       clear c13
       obtain ⟨y500, hy500⟩ : ∃ y_ : List Int, y_ = (([(wrap64 (97 + x6_2)) % 256] : List Int)) := ⟨_, rfl⟩
       replace H : ((clusterlockslaw08_atom.f (strOfNums y500)).bind fun bt503 => (if x500004_2.length < 2199023255552 then (clusterlockslaw08_FormulaPure.l0 k2 a0 a1 (wrap64 (x6_2 + 1)) a1 (⟨#[]⟩ : ByteArray) 0 0 (x500004_2 ++ [(⟨bt503.1, (⟨bt503.2.1, (⟨bt503.2.2.1, bt503.2.2.2.1⟩ : S23)⟩ : S25), bt503.2.2.2.2⟩ : S28)])) else (none))) = some r := by first | (rw [hy500]; with_reducible exact H) | (have H2_ := (Option.bind_some _ _).symm.trans H; rw [hy500]; with_reducible exact H2_) | (have H2_ := (Option.bind_some _ _).symm.trans H; with_reducible exact H2_) | with_reducible exact H | (rw [hy500]; exact H) | exact H
       have Ny500 := Aside0.mk hy500
       clear hy500
       replace H := Option.bind_eq_some_iff.mp H
       obtain ⟨⟨t503, t504, t505, t506, t507⟩, A140, H⟩ := H
       replace H : (if x500004_2.length < 2199023255552 then (clusterlockslaw08_FormulaPure.l0 k2 a0 a1 (wrap64 (x6_2 + 1)) a1 (⟨#[]⟩ : ByteArray) 0 0 (x500004_2 ++ [(⟨t503, (⟨t504, (⟨t505, t506⟩ : S23)⟩ : S25), t507⟩ : S28)])) else (none)) = some r := H
       have A14 := Aside0.mk A140
       clear A140
       by_cases c15 : x500004_2.length < 2199023255552
       ·rw [if_pos c15] at H
        have LMc15 := Aside0.mk c15
        clear c15
        obtain ⟨y510, hy510⟩ : ∃ y_ : List (S28), y_ = (x500004_2 ++ [(⟨t503, (⟨t504, (⟨t505, t506⟩ : S23)⟩ : S25), t507⟩ : S28)]) := ⟨_, rfl⟩
        replace H : (clusterlockslaw08_FormulaPure.l0 k2 a0 a1 (wrap64 (x6_2 + 1)) a1 (⟨#[]⟩ : ByteArray) 0 0 y510) = some r := by first | (rw [hy510]; with_reducible exact H) | (have H2_ := (Option.bind_some _ _).symm.trans H; rw [hy510]; with_reducible exact H2_) | (have H2_ := (Option.bind_some _ _).symm.trans H; with_reducible exact H2_) | with_reducible exact H | (rw [hy510]; exact H) | exact H
        have Ny510 := Aside0.mk hy510
        clear hy510
        have H' := Aside0.mk H
        clear H
        try go_wp2
        have n0_ := am (Kd.R_drew HO_500004.out)
        have n1_ := am (blk_drew BK499.out)
        have n2_ := am (below_drew1 HB.out)
        clear HO_500004 BK499 HB
        have HO_500004 := n0_
        have BK499 := n1_
        have HB := n2_
        clear n0_ n1_ n2_
        refine start_ (n := 12) (S := fun w' => w'.cell? ⟨gb499, 0, none⟩ = some (.int .i64 a1) ∧ w'.cell? ⟨gb499, 1, none⟩ = some (.string (⟨#[]⟩ : ByteArray)) ∧ w'.cell? ⟨gb499, 2, none⟩ = some (.int .i64 0) ∧ w'.cell? ⟨gb499, 3, none⟩ = some (.int .i64 0) ∧ w'.cell? ⟨gb499, 4, none⟩ = some (u500004)) (ds := [11]) #[false, false, false, false, false, false, false, false, false, false, false, false] (by kernel_rfl) rfl rfl ⟨(blk_cell BK499.out 0).trans rfl, (blk_cell BK499.out 1).trans rfl, (blk_cell BK499.out 2).trans rfl, (blk_cell BK499.out 3).trans rfl, (blk_cell BK499.out 4).trans rfl⟩ (fun hHeld => ?_); refine with_tabW clusterlockslaw08_FormulaPure.tab7 clusterlockslaw08_FormulaPure.bits7 (fun HT_ HW_ => ?_)
        generalize wr.drew = w16 at HO_500004 BK499 HB hHeld ⊢
        refine pure_ (i := 0) (N := some 31) (v := ?_) (a' := ?_) #[true, false, false, false, false, false, false, false, false, false, false, false] rfl rfl (any_of HT_.out (by kernel_rfl)) (fun _ _ _ h => h) (Or.inl ⟨by rfl, ?_⟩) ?_ ?_
        rotate_left
        ·intro w'
         go_simp
         with_reducible rfl
        rotate_left
        ·simp only [Act.put, List.setIfInBounds_toArray, List.set_cons_zero, List.set_cons_succ, i64_w, i32_w]
         rfl
        refine pure_ (i := 2) (N := some 33) (v := ?_) (a' := ?_) #[true, false, true, false, false, false, false, false, false, false, false, false] rfl rfl (any_of HT_.out (by kernel_rfl)) (fun _ _ _ h => h) (Or.inl ⟨by rfl, ?_⟩) ?_ ?_
        rotate_left
        ·intro w'
         go_simp
         with_reducible rfl
        rotate_left
        ·simp only [Act.put, List.setIfInBounds_toArray, List.set_cons_zero, List.set_cons_succ, i64_w, i32_w]
         rfl
        refine pure_ (i := 3) (N := some 34) (v := ?_) (a' := ?_) #[true, false, true, true, false, false, false, false, false, false, false, false] rfl rfl (any_of HT_.out (by kernel_rfl)) (fun _ _ _ h => h) (Or.inl ⟨by rfl, ?_⟩) ?_ ?_
        rotate_left
        ·intro w'
         go_simp
         with_reducible rfl
        rotate_left
        ·simp only [Act.put, List.setIfInBounds_toArray, List.set_cons_zero, List.set_cons_succ, i64_w, i32_w]
         rfl
        refine pure_ (i := 4) (N := some 35) (v := ?_) (a' := ?_) #[true, false, true, true, true, false, false, false, false, false, false, false] rfl rfl (any_of HT_.out (by kernel_rfl)) (fun _ _ _ h => h) (Or.inl ⟨by rfl, ?_⟩) ?_ ?_
        rotate_left
        ·intro w'
         go_simp
         with_reducible rfl
        rotate_left
        ·simp only [Act.put, List.setIfInBounds_toArray, List.set_cons_zero, List.set_cons_succ, i64_w, i32_w]
         rfl
        refine take_ (i := 1) (N := some 32) (v := ?_) (a' := ?_) #[true, true, true, true, true, false, false, false, false, false, false, false] rfl rfl (take_ofW HT_.out HW_.out (by kernel_rfl)) (fun _ _ _ h => h) (Or.inl ⟨by rfl, ?_⟩) hHeld ?_ ?_
        rotate_left
        ·rintro w' ⟨s0, s1, s2, s3, s4⟩
         go_simp
         with_reducible rfl
        rotate_left
        ·simp only [Act.put, List.setIfInBounds_toArray, List.set_cons_zero, List.set_cons_succ, i64_w, i32_w]
         rfl
        refine one_ (i := 5) (N := some 36) #[true, true, true, true, true, true, false, false, false, false, false, false] rfl rfl (one_of HT_.out (by kernel_rfl)) (by decide) (fun K hK => ?_)
        refine Kd.R_lit_step (Kd.int .u8) _ 5 ?hg (N := 36) ?hd (xs := ([(wrap64 (97 + x6_2)) % 256] : List Int)) (inner := [.int .u8 ((wrap64 (97 + x6_2)) % 256)]) (ok := fun _ => True) (okp := fun _ => True) ?hr ?hp (fun _ hk => hk) trivial (Below.refl _ _) (Nat.le_refl _) (by simp) ?_; (case hd => rfl); (case hg => rfl); (case hr => first | (go_simp; done) | (go_simp; rfl)); (case hp => exact (Reps.one (show Kd.M (Kd.int .u8) _ _ _ ((wrap64 (97 + x6_2)) % 256) [.int .u8 ((wrap64 (97 + x6_2)) % 256)] from rfl) (Reps.none _ _)))
        intro v501 w17 ho18 hb hg_ hnew_
        clear hg_ hnew_
        (first | rw [← Ny500.out] at ho18 | (simp only [Int.reduceToNat] at ho18; rw [← Ny500.out] at ho18))
        have n0_ := am (Kd.R_below (zR HO_500004.out) hb)
        have n1_ := am (Kd.R_lower ho18 (below_size (zL HB.out)))
        have n2_ := am (blk_below (zB BK499.out) hb)
        have n3_ := am (below_step (zL HB.out) hb)
        clear HO_500004 BK499 HB
        have HO_500004 := n0_
        have HO502 := n1_
        have BK499 := n2_
        have HB := n3_
        clear n0_ n1_ n2_ n3_
        clear hb ho18
        refine hK.out _ _ ⟨(blk_cell BK499.out 0).trans rfl, (blk_cell BK499.out 1).trans rfl, (blk_cell BK499.out 2).trans rfl, (blk_cell BK499.out 3).trans rfl, (blk_cell BK499.out 4).trans rfl⟩ (fun hHeld => ?_)
        clear hK K
        refine norm_ (a' := ?_) ?_ ?_
        rotate_left
        ·show Act.put _ (some 36) _ = _
         simp only [Act.put, List.setIfInBounds_toArray, List.set_cons_zero, List.set_cons_succ, i64_w, i32_w]
         rfl
        refine one_ (i := 6) (N := some 37) #[true, true, true, true, true, true, true, false, false, false, false, false] rfl rfl (one_of HT_.out (by kernel_rfl)) (by decide) (fun K hK => ?_)
        have hcv19 := own_string (P := Try.prog) Try.underlying47 Try.underlying5 Try.underlying9 (Kd.own_of_R HO502.out)
        refine value_ (w1 := ?_) (v := ?_) (by rfl) rfl ?_ ?_
        rotate_left 2
        ·go_simp
         constructor
         ·rfl
         ·rfl
        clear hcv19
        refine hK.out _ _ ⟨(blk_cell BK499.out 0).trans rfl, (blk_cell BK499.out 1).trans rfl, (blk_cell BK499.out 2).trans rfl, (blk_cell BK499.out 3).trans rfl, (blk_cell BK499.out 4).trans rfl⟩ (fun hHeld => ?_)
        clear hK K
        refine norm_ (a' := ?_) ?_ ?_
        rotate_left
        ·show Act.put _ (some 37) _ = _
         simp only [Act.put, List.setIfInBounds_toArray, List.set_cons_zero, List.set_cons_succ, i64_w, i32_w]
         rfl
        refine one_ (i := 7) (N := some 38) #[true, true, true, true, true, true, true, true, false, false, false, false] rfl rfl (one_of HT_.out (by kernel_rfl)) (by decide) (fun K hK => ?_)
        refine goes_ Try.func26 (by kernel_rfl) rfl #[.string (strOfNums y500)] (by rfl) rfl rfl (by (try simp only [List.map_toArray, List.map_cons, List.map_nil]); first | done | rfl | (simp only [List.length_drop, List.length_take]; rfl)) ?_
        with_reducible refine (clusterlockslaw08_atom.calls (strOfNums y500) t503 t504 t505 t506 t507 _ A14.out).mono ?_
        rintro e w20 ⟨v508, rfl, ho0, hb⟩
        refine ⟨_, rfl, ?_⟩
        have n0_ := am (Kd.R_elder' (zR HO_500004.out) (Kd.R_base ho0) hb)
        have n1_ := am (Kd.R_below (zR HO502.out) hb)
        have n2_ := am (Kd.R_lower (Kd.R_newB (Kd.R_new' ho0 (Kd.R_lt (zR HO_500004.out))) (g := gb499) (o := .cells #[.int .i64 a1, .string (⟨#[]⟩ : ByteArray), .int .i64 0, .int .i64 0, u500004] 28 (0, 0)) (zB BK499.out)) (below_size (zL HB.out)))
        have n3_ := am (blk_below (zB BK499.out) hb)
        have n4_ := am (below_step (zL HB.out) hb)
        clear HO_500004 HO502 BK499 HB
        have HO_500004 := n0_
        have HO502 := n1_
        have HO509 := n2_
        have BK499 := n3_
        have HB := n4_
        clear n0_ n1_ n2_ n3_ n4_
        (try clear hb)
        (try clear hb2)
        (try clear hk)
        (try clear hi)
        (try clear ho0)
        obtain ⟨Ao22, co22, eo22⟩ := Kd.R_slice HO509.out
        (first | subst eo22 | (injection eo22 with f1_ f2_ f3_; have f4_ := f1_.symm; have f5_ := f3_.symm; clear f1_ f2_ f3_; subst f4_; subst f5_))
        refine hK.out _ _ ⟨(blk_cell BK499.out 0).trans rfl, (blk_cell BK499.out 1).trans rfl, (blk_cell BK499.out 2).trans rfl, (blk_cell BK499.out 3).trans rfl, (blk_cell BK499.out 4).trans rfl⟩ (fun hHeld => ?_)
        clear hK K
        refine norm_ (a' := ?_) ?_ ?_
        rotate_left
        ·show Act.put _ (some 38) _ = _
         simp only [Act.put, List.setIfInBounds_toArray, List.set_cons_zero, List.set_cons_succ, i64_w, i32_w]
         rfl
        refine one_ (i := 8) (N := some 39) #[true, true, true, true, true, true, true, true, true, false, false, false] rfl rfl (one_of HT_.out (by kernel_rfl)) (by decide) (fun K hK => ?_)
        refine value_ (w1 := ?_) (v := ?_) (by rfl) rfl ?_ ?_
        rotate_left 2
        ·go_simp
         constructor
         ·rfl
         ·rfl
        refine hK.out _ _ ⟨(blk_cell (blk_alloc BK499.out _) 0).trans rfl, (blk_cell (blk_alloc BK499.out _) 1).trans rfl, (blk_cell (blk_alloc BK499.out _) 2).trans rfl, (blk_cell (blk_alloc BK499.out _) 3).trans rfl, (blk_cell (blk_alloc BK499.out _) 4).trans rfl⟩ (fun hHeld => ?_)
        clear hK K
        refine norm_ (a' := ?_) ?_ ?_
        rotate_left
        ·show Act.put _ (some 39) _ = _
         simp only [Act.put, List.setIfInBounds_toArray, List.set_cons_zero, List.set_cons_succ, i64_w, i32_w]
         rfl
        refine one_ (i := 9) (N := some 40) #[true, true, true, true, true, true, true, true, true, true, false, false] rfl rfl (one_of HT_.out (by kernel_rfl)) (by decide) (fun K hK => ?_)
        refine Kd.R_append_step k28 (w0 := w) w.heap.size (by rfl) (.tmp 32) (.tmp 39) 26 28 (.agg #[(.int .i64 0), (.string ⟨#[]⟩), (.int .i64 0), (.int .i64 0), (.slice none 0 0)]) 64 rfl Try.underlying26 info28 rfl (by decide) (by omega) u500004 x500004_2 (⟨t503, (⟨t504, (⟨t505, t506⟩ : S23)⟩ : S25), t507⟩ : S28) [.int .i64 t503, .string t504, .int .i64 t505, .int .i64 t506, .slice Ao22 t507.length co22] (fun k_ => k_ ≠ gb499) (fun k_ => ((fun k_ => k_ ≠ gb499)) k_ ∧ some k_ ≠ (u500004 : Value).ownBlock) rfl rfl ?aP (fun _ hk => hk) ?aF ?aO ?aB ?aS ?aL ?_
        (case aP => exact k28_mkM _ _ _ (⟨t503, (⟨t504, (⟨t505, t506⟩ : S23)⟩ : S25), t507⟩ : S28) (Kd.R_mono (HO509.out) (fun k_ hk => ⟨hk.2, hk.1.2⟩)))
        (case aB => exact (by repeat (first | (with_reducible first | exact HB.out | apply ba | apply bd | apply be | refine below_set ?_ GE499.out) | exact HB.out)))
        (case aF => exact (fun k_ hk => Kd.freshB (g := gb499) (o := .cells #[.int .i64 a1, .string (⟨#[]⟩ : ByteArray), .int .i64 0, .int .i64 0, u500004] 28 (0, 0)) (zB BK499.out) k_ hk))
        (case aO => exact (by exact zR <| Kd.R_mono HO_500004.out (fun _ hk => hk.1)))
        (case aS => exact (below_size (zL HB.out)))
        (case aL => have := LMc15.out; omega)
        intro v511 w21 ho hb hg hat
        rw [← Ny510.out] at ho
        have n0_ := am (blk_grown (g := gb499) (o := .cells #[.int .i64 a1, .string (⟨#[]⟩ : ByteArray), .int .i64 0, .int .i64 0, u500004] 28 (0, 0)) (zB BK499.out) hg (Kd.R_away HO_500004.out (fun _ hk => hk.1)))
        have n1_ := am (Kd.R_over' (zR HO502.out) (Kd.R_typed (zR HO_500004.out)) (by decide) hg)
        have n2_ := am (hb)
        have n3_ := am (ho)
        clear BK499 HO502 HB HO_500004 HO509
        have BK499 := n0_
        have HO502 := n1_
        have HB := n2_
        have HO512 := n3_
        clear n0_ n1_ n2_ n3_
        clear ho hb hg hat
        obtain ⟨Ao23, co23, eo23⟩ := Kd.R_slice HO512.out
        (first | subst eo23 | (injection eo23 with f1_ f2_ f3_; have f4_ := f1_.symm; have f5_ := f3_.symm; clear f1_ f2_ f3_; subst f4_; subst f5_))
        refine hK.out _ _ ⟨(blk_cell BK499.out 0).trans rfl, (blk_cell BK499.out 1).trans rfl, (blk_cell BK499.out 2).trans rfl, (blk_cell BK499.out 3).trans rfl, (blk_cell BK499.out 4).trans rfl⟩ (fun hHeld => ?_)
        clear hK K
        refine norm_ (a' := ?_) ?_ ?_
        rotate_left
        ·show Act.put _ (some 40) _ = _
         simp only [Act.put, List.setIfInBounds_toArray, List.set_cons_zero, List.set_cons_succ, i64_w, i32_w]
         rfl
        refine pure_ (i := 10) (N := some 41) (v := ?_) (a' := ?_) #[true, true, true, true, true, true, true, true, true, true, true, false] rfl rfl (any_of HT_.out (by kernel_rfl)) (fun _ _ _ h => h) (Or.inl ⟨by rfl, ?_⟩) ?_ ?_
        rotate_left
        ·intro w'
         go_simp
         with_reducible rfl
        rotate_left
        ·simp only [Act.put, List.setIfInBounds_toArray, List.set_cons_zero, List.set_cons_succ, i64_w, i32_w]
         rfl
        refine last_ (i := 11) (N := none) #[true, true, true, true, true, true, true, true, true, true, true, true] rfl rfl (one_of HT_.out (by kernel_rfl)) (by decide) (fun K hK => ?_)
        have hs24 : w21.cell? ⟨gb499, 4, none⟩ = some (u500004) := (blk_cell BK499.out 4).trans rfl
        have hfs24 := blk_frozen BK499.out 4
        refine skip_ (w1 := ?_) (by rfl) rfl ?_ ?_
        rotate_left
        ·go_simp
         rfl
        refine hK.out _ _ ?_
        clear hK K
        refine done_ (done_of HT_.out (by kernel_rfl)) ?_
        have n0_ : Aside0 (Kd.R (Kd.int .u8) 5 (w21.setCell ⟨gb499, 4, none⟩ (.slice Ao23 y510.length co23)) w.heap.size (fun _ => True) v501 y500) := ⟨by exact zR <| Kd.R_mono (Kd.R_far (p := ⟨gb499, 4, none⟩) (Kd.R_types HO502.out BK499.out (by decide)) (fun _ hk => hk.2) (.slice Ao23 y510.length co23)) (fun _ hk => trivial)⟩
        have n1_ : Aside0 (Kd.R k28 28 (w21.setCell ⟨gb499, 4, none⟩ (.slice Ao23 y510.length co23)) w.heap.size (fun k_ => k_ ≠ gb499) (.slice Ao23 y510.length co23) y510) := ⟨by exact zR <| Kd.R_mono (Kd.R_far (p := ⟨gb499, 4, none⟩) (Kd.R_mono HO512.out (fun k_ hk => (⟨hk, hk⟩ : _ ∧ k_ ≠ gb499))) (fun _ hk => hk.2) (.slice Ao23 y510.length co23)) (fun _ hk => hk.1)⟩
        have n2_ : Aside0 ((w21.setCell ⟨gb499, 4, none⟩ (.slice Ao23 y510.length co23)).heap[gb499]? = some (.cells #[.int .i64 a1, .string (⟨#[]⟩ : ByteArray), .int .i64 0, .int .i64 0, .slice Ao23 y510.length co23] 28 (0, 0))) := ⟨by refine blk_put (cs := #[.int .i64 a1, .string (⟨#[]⟩ : ByteArray), .int .i64 0, .int .i64 0, u500004]) ?_ 4 _ rfl; exact zB <| BK499.out⟩
        have n3_ : Aside0 (Below w.heap.size w (w21.setCell ⟨gb499, 4, none⟩ (.slice Ao23 y510.length co23))) := ⟨by repeat (first | (with_reducible first | exact HB.out | apply ba | apply bd | apply be | refine below_set ?_ GE499.out) | exact HB.out)⟩
        (try clear HO502)
        (try clear HO512)
        (try clear BK499)
        (try clear HB)
        generalize (w21.setCell ⟨gb499, 4, none⟩ (.slice Ao23 y510.length co23)) = w25 at n0_ n1_ n2_ n3_ ⊢
        have HO502 := n0_
        have HO512 := n1_
        have BK499 := n2_
        have HB := n3_
        clear n0_ n1_ n2_ n3_
        try go_wp2
        go_roundg k2
        case measure => have := HJ2.out; have := HK2.out; omega
        case rel => exact ⟨(wrap64 (x6_2 + 1)), (y510), (.slice Ao23 y510.length co23), (by first | rfl | (simp; done) | (simp [*]; done)), H', ⟨by have := HJ2.out; have := HK2.out; omega⟩, ⟨by exact zR HO512.out⟩, ⟨by exact zB <| BK499.out⟩, ⟨by repeat (first | (with_reducible first | exact HB.out | apply ba | apply bd | apply be | refine below_set ?_ GE499.out) | exact HB.out)⟩⟩
       ·rw [if_neg c15] at H
        exact absurd H (by simp)
      ·rw [if_neg c13] at H
       have c13b0 : decide (x6_2 < a0) = false := decide_eq_false c13
       clear c13
       by_cases c26 : a1 = a0
       ·rw [if_pos c26] at H
        have c26b0 : (a1 == a0) = true := beq_iff_eq.mpr c26
        have c26b1 : (a1 != a0) = false := bne_eq_false_iff_eq.mpr c26
        clear c26
        replace H := Option.bind_eq_some_iff.mp H
        obtain ⟨t513, A270, H⟩ := H
        replace H : (if t513 = true then ((formula_Class.f k2 a1 (⟨#[]⟩ : ByteArray) 0 0 x500004_2).bind fun t514 => (some (t514 == 2))) else (none)) = some r := H
        have A27 := Aside0.mk A270
        clear A270
        by_cases c28 : t513 = true
        ·subst c28
         have H1 : ((formula_Class.f k2 a1 (⟨#[]⟩ : ByteArray) 0 0 x500004_2).bind fun t514 => (some (t514 == 2))) = some r := by rw [if_pos rfl] at H; exact H
         clear H
         have H := H1
         clear H1
         replace H := Option.bind_eq_some_iff.mp H
         obtain ⟨t514, A290, H⟩ := H
         replace H : (some (t514 == 2)) = some r := H
         have A29 := Aside0.mk A290
         clear A290
         obtain rfl := Option.some.inj H
         go_wp2_with (first | ((with_reducible refine gate_callee (f := 14) rfl ?_); refine goesL_ (some 47) rfl rfl Try.func14 (by kernel_rfl) rfl #[] rfl (by (try simp only [List.map_toArray, List.map_cons, List.map_nil]); first | done | rfl | (simp only [List.length_drop, List.length_take]; rfl)) ?_; (with_reducible refine (clusterlockslaw08_awake.calls k2  true _ A27.out).mono ?_); rintro e w30 ⟨rfl, hb⟩; refine ⟨_, rfl, ?_⟩; have n0_ := am (Kd.R_below (zR HO_500004.out) hb); have n1_ := am (blk_below (zB BK499.out) hb); have n2_ := am (below_step (zL HB.out) hb); clear HO_500004 BK499 HB; have HO_500004 := n0_; have BK499 := n1_; have HB := n2_; clear n0_ n1_ n2_; (try clear hb); (try clear hb2); (try clear hk); (try clear hi); have hcz31_0 : w30.cell? ⟨gb499, 0, none⟩ = some (.int .i64 a1) := (blk_cell BK499.out 0).trans rfl; have hcz31_1 : w30.cell? ⟨gb499, 1, none⟩ = some (.string (⟨#[]⟩ : ByteArray)) := (blk_cell BK499.out 1).trans rfl; have hcz31_2 : w30.cell? ⟨gb499, 2, none⟩ = some (.int .i64 0) := (blk_cell BK499.out 2).trans rfl; have hcz31_3 : w30.cell? ⟨gb499, 3, none⟩ = some (.int .i64 0) := (blk_cell BK499.out 3).trans rfl; have hcz31_4 : w30.cell? ⟨gb499, 4, none⟩ = some (u500004) := (blk_cell BK499.out 4).trans rfl; have hfz31_0 := blk_frozen BK499.out 0; have hfz31_1 := blk_frozen BK499.out 1; have hfz31_2 := blk_frozen BK499.out 2; have hfz31_3 := blk_frozen BK499.out 3; have hfz31_4 := blk_frozen BK499.out 4; obtain ⟨Ao32, co32, eo32⟩ := Kd.R_slice HO_500004.out; subst eo32) | (go_at_call 27; (with_reducible refine (formula_Class.calls k2 a1 (⟨#[]⟩ : ByteArray) 0 0 _ _ x500004_2 t514 _ ?side1 ?side2 A29.out).mono ?_); (case side1 => exact zC (Kd.R_reads' HO_500004.out).2.2); (case side2 => exact (Kd.R_reads' HO_500004.out).2.1); rintro e w33 ⟨rfl, hb⟩; have n0_ := am (Kd.R_below (zR HO_500004.out) hb); have n1_ := am (blk_below (zB BK499.out) hb); have n2_ := am (below_step (zL HB.out) hb); clear HO_500004 BK499 HB; have HO_500004 := n0_; have BK499 := n1_; have HB := n2_; clear n0_ n1_ n2_; (try clear hb); (try clear hb2); (try clear hk); (try clear hi)))
         go_ret
         exact ⟨by first | rfl | (simp [errW_none, errW_some] <;> rfl) | (simp [*, errW_none, errW_some] <;> rfl), by repeat (first | (with_reducible first | exact HB.out | apply ba | apply bd | apply be | refine below_set ?_ GE499.out) | exact HB.out)⟩
        ·replace c28 := Bool.eq_false_iff.mpr c28
         subst c28
         have H1 : (none) = some r := by rw [if_neg (show ¬ (false = true) by decide)] at H; exact H
         clear H
         have H := H1
         clear H1
         exact absurd H (by simp)
       ·rw [if_neg c26] at H
        have c26b0 : (a1 == a0) = false := beq_eq_false_iff_ne.mpr c26
        have c26b1 : (a1 != a0) = true := bne_iff_ne.mpr c26
        by_cases c34 : a1 = 1
        ·rw [if_pos c34] at H
         have c34b0 : (a1 == 1) = true := beq_iff_eq.mpr c34
         have c34b1 : (a1 != 1) = false := bne_eq_false_iff_eq.mpr c34
         clear c34
         replace H := Option.bind_eq_some_iff.mp H
         obtain ⟨t515, A350, H⟩ := H
         replace H : (if t515 = true then ((formula_Class.f k2 a1 (⟨#[]⟩ : ByteArray) 0 0 x500004_2).bind fun t516 => (some (t516 == 3))) else (none)) = some r := H
         have A35 := Aside0.mk A350
         clear A350
         by_cases c36 : t515 = true
         ·subst c36
          have H1 : ((formula_Class.f k2 a1 (⟨#[]⟩ : ByteArray) 0 0 x500004_2).bind fun t516 => (some (t516 == 3))) = some r := by rw [if_pos rfl] at H; exact H
          clear H
          have H := H1
          clear H1
          replace H := Option.bind_eq_some_iff.mp H
          obtain ⟨t516, A370, H⟩ := H
          replace H : (some (t516 == 3)) = some r := H
          have A37 := Aside0.mk A370
          clear A370
          obtain rfl := Option.some.inj H
          go_wp2_with (first | ((with_reducible refine gate_callee (f := 14) rfl ?_); refine goesL_ (some 47) rfl rfl Try.func14 (by kernel_rfl) rfl #[] rfl (by (try simp only [List.map_toArray, List.map_cons, List.map_nil]); first | done | rfl | (simp only [List.length_drop, List.length_take]; rfl)) ?_; (with_reducible refine (clusterlockslaw08_awake.calls k2  true _ A35.out).mono ?_); rintro e w38 ⟨rfl, hb⟩; refine ⟨_, rfl, ?_⟩; have n0_ := am (Kd.R_below (zR HO_500004.out) hb); have n1_ := am (blk_below (zB BK499.out) hb); have n2_ := am (below_step (zL HB.out) hb); clear HO_500004 BK499 HB; have HO_500004 := n0_; have BK499 := n1_; have HB := n2_; clear n0_ n1_ n2_; (try clear hb); (try clear hb2); (try clear hk); (try clear hi); have hcz39_0 : w38.cell? ⟨gb499, 0, none⟩ = some (.int .i64 a1) := (blk_cell BK499.out 0).trans rfl; have hcz39_1 : w38.cell? ⟨gb499, 1, none⟩ = some (.string (⟨#[]⟩ : ByteArray)) := (blk_cell BK499.out 1).trans rfl; have hcz39_2 : w38.cell? ⟨gb499, 2, none⟩ = some (.int .i64 0) := (blk_cell BK499.out 2).trans rfl; have hcz39_3 : w38.cell? ⟨gb499, 3, none⟩ = some (.int .i64 0) := (blk_cell BK499.out 3).trans rfl; have hcz39_4 : w38.cell? ⟨gb499, 4, none⟩ = some (u500004) := (blk_cell BK499.out 4).trans rfl; have hfz39_0 := blk_frozen BK499.out 0; have hfz39_1 := blk_frozen BK499.out 1; have hfz39_2 := blk_frozen BK499.out 2; have hfz39_3 := blk_frozen BK499.out 3; have hfz39_4 := blk_frozen BK499.out 4; obtain ⟨Ao40, co40, eo40⟩ := Kd.R_slice HO_500004.out; subst eo40) | (go_at_call 27; (with_reducible refine (formula_Class.calls k2 a1 (⟨#[]⟩ : ByteArray) 0 0 _ _ x500004_2 t516 _ ?side1 ?side2 A37.out).mono ?_); (case side1 => exact zC (Kd.R_reads' HO_500004.out).2.2); (case side2 => exact (Kd.R_reads' HO_500004.out).2.1); rintro e w41 ⟨rfl, hb⟩; have n0_ := am (Kd.R_below (zR HO_500004.out) hb); have n1_ := am (blk_below (zB BK499.out) hb); have n2_ := am (below_step (zL HB.out) hb); clear HO_500004 BK499 HB; have HO_500004 := n0_; have BK499 := n1_; have HB := n2_; clear n0_ n1_ n2_; (try clear hb); (try clear hb2); (try clear hk); (try clear hi)))
          go_ret
          exact ⟨by first | rfl | (simp [errW_none, errW_some] <;> rfl) | (simp [*, errW_none, errW_some] <;> rfl), by repeat (first | (with_reducible first | exact HB.out | apply ba | apply bd | apply be | refine below_set ?_ GE499.out) | exact HB.out)⟩
         ·replace c36 := Bool.eq_false_iff.mpr c36
          subst c36
          have H1 : (none) = some r := by rw [if_neg (show ¬ (false = true) by decide)] at H; exact H
          clear H
          have H := H1
          clear H1
          exact absurd H (by simp)
        ·rw [if_neg c34] at H
         have c34b0 : (a1 == 1) = false := beq_eq_false_iff_ne.mpr c34
         have c34b1 : (a1 != 1) = true := bne_iff_ne.mpr c34
         replace H := Option.bind_eq_some_iff.mp H
         obtain ⟨t517, A420, H⟩ := H
         replace H : (if t517 = true then ((formula_Class.f k2 a1 (⟨#[]⟩ : ByteArray) 0 0 x500004_2).bind fun t518 => (some (t518 == 4))) else (none)) = some r := H
         have A42 := Aside0.mk A420
         clear A420
         by_cases c43 : t517 = true
         ·subst c43
          have H1 : ((formula_Class.f k2 a1 (⟨#[]⟩ : ByteArray) 0 0 x500004_2).bind fun t518 => (some (t518 == 4))) = some r := by rw [if_pos rfl] at H; exact H
          clear H
          have H := H1
          clear H1
          replace H := Option.bind_eq_some_iff.mp H
          obtain ⟨t518, A440, H⟩ := H
          replace H : (some (t518 == 4)) = some r := H
          have A44 := Aside0.mk A440
          clear A440
          obtain rfl := Option.some.inj H
          go_wp2_with (first | ((with_reducible refine gate_callee (f := 14) rfl ?_); refine goesL_ (some 47) rfl rfl Try.func14 (by kernel_rfl) rfl #[] rfl (by (try simp only [List.map_toArray, List.map_cons, List.map_nil]); first | done | rfl | (simp only [List.length_drop, List.length_take]; rfl)) ?_; (with_reducible refine (clusterlockslaw08_awake.calls k2  true _ A42.out).mono ?_); rintro e w45 ⟨rfl, hb⟩; refine ⟨_, rfl, ?_⟩; have n0_ := am (Kd.R_below (zR HO_500004.out) hb); have n1_ := am (blk_below (zB BK499.out) hb); have n2_ := am (below_step (zL HB.out) hb); clear HO_500004 BK499 HB; have HO_500004 := n0_; have BK499 := n1_; have HB := n2_; clear n0_ n1_ n2_; (try clear hb); (try clear hb2); (try clear hk); (try clear hi); have hcz46_0 : w45.cell? ⟨gb499, 0, none⟩ = some (.int .i64 a1) := (blk_cell BK499.out 0).trans rfl; have hcz46_1 : w45.cell? ⟨gb499, 1, none⟩ = some (.string (⟨#[]⟩ : ByteArray)) := (blk_cell BK499.out 1).trans rfl; have hcz46_2 : w45.cell? ⟨gb499, 2, none⟩ = some (.int .i64 0) := (blk_cell BK499.out 2).trans rfl; have hcz46_3 : w45.cell? ⟨gb499, 3, none⟩ = some (.int .i64 0) := (blk_cell BK499.out 3).trans rfl; have hcz46_4 : w45.cell? ⟨gb499, 4, none⟩ = some (u500004) := (blk_cell BK499.out 4).trans rfl; have hfz46_0 := blk_frozen BK499.out 0; have hfz46_1 := blk_frozen BK499.out 1; have hfz46_2 := blk_frozen BK499.out 2; have hfz46_3 := blk_frozen BK499.out 3; have hfz46_4 := blk_frozen BK499.out 4; obtain ⟨Ao47, co47, eo47⟩ := Kd.R_slice HO_500004.out; subst eo47) | (go_at_call 27; (with_reducible refine (formula_Class.calls k2 a1 (⟨#[]⟩ : ByteArray) 0 0 _ _ x500004_2 t518 _ ?side1 ?side2 A44.out).mono ?_); (case side1 => exact zC (Kd.R_reads' HO_500004.out).2.2); (case side2 => exact (Kd.R_reads' HO_500004.out).2.1); rintro e w48 ⟨rfl, hb⟩; have n0_ := am (Kd.R_below (zR HO_500004.out) hb); have n1_ := am (blk_below (zB BK499.out) hb); have n2_ := am (below_step (zL HB.out) hb); clear HO_500004 BK499 HB; have HO_500004 := n0_; have BK499 := n1_; have HB := n2_; clear n0_ n1_ n2_; (try clear hb); (try clear hb2); (try clear hk); (try clear hi)))
          go_ret
          exact ⟨by first | rfl | (simp [errW_none, errW_some] <;> rfl) | (simp [*, errW_none, errW_some] <;> rfl), by repeat (first | (with_reducible first | exact HB.out | apply ba | apply bd | apply be | refine below_set ?_ GE499.out) | exact HB.out)⟩
         ·replace c43 := Bool.eq_false_iff.mpr c43
          subst c43
          have H1 : (none) = some r := by rw [if_neg (show ¬ (false = true) by decide)] at H; exact H
          clear H
          have H := H1
          clear H1
          exact absurd H (by simp)

/-- THE ONE PURE STATEMENT of clusterlockslaw08_FormulaPure: yours. -/
def clusterlockslaw08_FormulaPure.Pure : Prop := ∀ (a0 : Int) (a1 : Int), (Lit.int .i64 a0).wf = true → (Lit.int .i64 a1).wf = true → ∃ k, clusterlockslaw08_FormulaPure.f k a0 a1 = some true
theorem clusterlockslaw08_FormulaPure.walk (P : clusterlockslaw08_FormulaPure.Pure) (a0 : Int) (a1 : Int) (w : World) (w0 : (Lit.int .i64 a0).wf = true) (w1 : (Lit.int .i64 a1).wf = true) :
  Calls Try.prog 9 #[.int .i64 a0, .int .i64 a1] w fun e w' => e = .returned (.bool true) ∧ Below w.heap.size w w' := by
 obtain ⟨k, h⟩ := P a0 a1 w0 w1
 refine (clusterlockslaw08_FormulaPure.calls k a0 a1 true w h).mono ?_
 rintro e w' ⟨rfl, hd⟩
 exact ⟨rfl, hd⟩

end Go.Proofs.Ytefbcebpokoinaa.Y

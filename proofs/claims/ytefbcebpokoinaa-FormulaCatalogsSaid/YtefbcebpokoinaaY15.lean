-- Laid by a program of this session's (xprint.py, which runs the kit's print.py with patches of its own). Lean checks it.
import Derived.Test.YtefbcebpokoinaaY0
import Derived.Test.YtefbcebpokoinaaY14
namespace Go.Proofs.Ytefbcebpokoinaa.Y
open Go.RowKit Go.Proofs.YtefbcebpokoinaaW.PrintWords Go.Proofs.YtefbcebpokoinaaW.PrintLast Go.Proofs.YtefbcebpokoinaaW.PrintMore
attribute [local go_sem] max2_int min2_int max_two min_two max_three min_three max_four min_four   -- for this text's walks alone
set_option linter.unusedVariables false
set_option linter.unusedSimpArgs false

/-! ### clusterlocksmill_Expr: function 20 -/
def clusterlocksmill_Expr.l0 : Nat → List (S59) → Int → List (S25) → Int → List Int → Int → Option (Int × ByteArray × Int × Int × (List (S28)) × Int)
 | 0, _, _, _, _, _, _ => none
 | k + 1, x1, x5, x6, x7, x1000, x1001 => if x7 < (x1.length : Int) then (if 0 ≤ x7 then (if 0 ≤ (IntKind.u64.wrap (wrap64 (3 * x7))) then ((clusterlocksmill_Amount.f ((rd_T59 x1 x7).f0) ((rd_T59 x1 x7).f1) ((rd_T59 x1 x7).f2) ((rd_T59 x1 x7).f3) (shr .i64 x5 (IntKind.u64.wrap (wrap64 (3 * x7))))).bind fun bt351 => (if x6.length < 4398046511104 then (clusterlocksmill_Expr.l0 k x1 x5 (x6 ++ [(⟨(rd_T59 x1 x7).f0, (⟨bt351.1, bt351.2⟩ : S23)⟩ : S25)]) (wrap64 (x7 + 1)) x1000 x1001) else (none))) else (none)) else (none)) else ((clusterlocksmill_group.f k x1000 x1001 x6 2).bind fun bt356 => (some (bt356.1, bt356.2.1, bt356.2.2.1, bt356.2.2.2.1, bt356.2.2.2.2.1, bt356.2.2.2.2.2)))
def clusterlocksmill_Expr.f (k : Nat) (s0_0 : List Int) (s0_1 : Int) (l1 : List (S59)) : Option (Int × ByteArray × Int × Int × (List (S28)) × Int) := (clusterlocksmill_Tape_Next.f s0_0 s0_1 1048576).bind fun bt347 => (clusterlocksmill_Expr.l0 k l1 bt347.1 ([] : List (S25)) 0 s0_0 bt347.2)
theorem clusterlocksmill_Expr.mono_l : ∀ k, (∀ y0 y1 y2 y3 y4 y5, LeO (clusterlocksmill_Expr.l0 k y0 y1 y2 y3 y4 y5) (clusterlocksmill_Expr.l0 (k + 1) y0 y1 y2 y3 y4 y5))
 | 0 => fun _ _ _ _ _ _ r h => by simp [clusterlocksmill_Expr.l0] at h
 | k + 1 => by
  have ih0 := clusterlocksmill_Expr.mono_l k
  ·intro y0 y1 y2 y3 y4 y5
   unfold clusterlocksmill_Expr.l0
   repeat' first
   | (with_reducible exact ih0 _ _ _ _ _ _)
   | (with_reducible exact clusterlocksmill_group.mono _ _ _ _ _)
   | (with_reducible exact LeO.refl _)
   | (with_reducible exact LeO.none _)
   | (with_reducible refine LeO.ite ?_ ?_)
   | (with_reducible refine LeO.bind ?_ (fun _ => ?_))
   | exact ih0 _ _ _ _ _ _
   | exact clusterlocksmill_group.mono _ _ _ _ _
   | exact LeO.none _
   | refine LeO.ite ?_ ?_
   | refine LeO.bind ?_ (fun _ => ?_)
theorem clusterlocksmill_Expr.mono : ∀ a0 a1 a2 k, LeO (clusterlocksmill_Expr.f k a0 a1 a2) (clusterlocksmill_Expr.f (k + 1) a0 a1 a2) := by
 intro a0 a1 a2 k
 have ih0 := clusterlocksmill_Expr.mono_l k
 unfold clusterlocksmill_Expr.f
 repeat' first
   | (with_reducible exact ih0 _ _ _ _ _ _)
   | (with_reducible exact clusterlocksmill_group.mono _ _ _ _ _)
   | (with_reducible exact LeO.refl _)
   | (with_reducible exact LeO.none _)
   | (with_reducible refine LeO.ite ?_ ?_)
   | (with_reducible refine LeO.bind ?_ (fun _ => ?_))
   | exact ih0 _ _ _ _ _ _
   | exact clusterlocksmill_group.mono _ _ _ _ _
   | exact LeO.none _
   | refine LeO.ite ?_ ?_
   | refine LeO.bind ?_ (fun _ => ?_)
def clusterlocksmill_Expr.T6 : Bool × List (List Nat × List Nat) := (true, [([], []), ([], []), ([], []), ([1, 2], [1, 2]), ([3], [3]), ([4], [4]), ([], []), ([], []), ([6, 7], [6, 7]), ([8], [8]), ([], []), ([], []), ([11], [11]), ([12], [12]), ([10, 13], [10, 13]), ([9, 14], [9, 14]), ([5, 15], [5, 15]), ([16], [16]), ([0, 17, 15], [0, 17]), ([18, 18, 0, 1, 2, 3, 4, 5, 6, 7, 8, 9, 10, 11, 12, 13, 14, 15, 16, 17, 18], [0, 18])])
def clusterlocksmill_Expr.B6 : List Nat := [0, 0, 0, 6, 14, 30, 0, 0, 192, 448, 0, 0, 2048, 6144, 15360, 32704, 65534, 131070, 262143, 524287]
theorem clusterlocksmill_Expr.tab6 : rtab .any (opsOf Try.f20 6) = clusterlocksmill_Expr.T6 := by kernel_rfl
theorem clusterlocksmill_Expr.bits6 : waitsOk clusterlocksmill_Expr.T6.2 clusterlocksmill_Expr.B6 = true := by kernel_rfl
set_option maxHeartbeats 8000000 in
set_option maxRecDepth 100000 in
theorem clusterlocksmill_Expr.calls (k : Nat) (g : Nat) (s0_0 : List Int) (s0_1 : Int) (A1 : Option Addr) (c1 : Nat) (l1 : List (S59)) (r1 : Int) (r2 : ByteArray) (r3 : Int) (r4 : Int) (r5 : List (S28)) (r6 : Int) (w0 w : World) (hI : IsS39 w0 w g s0_0 s0_1) (hB : Below w0.heap.size w0 w) (hr1 : ∀ W_, KeepBut w W_ g none → Kd.C k59 W_ A1 l1.length l1) (hc1 : l1.length ≤ c1) (h : clusterlocksmill_Expr.f k s0_0 s0_1 l1 = some (r1, r2, r3, r4, r5, r6)) :
  Calls Try.prog 20 #[.pointer (some ⟨g, 0, none⟩), .slice A1 l1.length c1] w fun e w' => ∃ v4_ : Value, e = .returned (.agg #[.int .i64 r1, .string r2, .int .i64 r3, .int .i64 r4, v4_]) ∧ Kd.R k28 28 w' w.heap.size (fun _ => True) v4_ r5 ∧ IsS39 w0 w' g s0_0 r6 ∧ Below w0.heap.size w0 w' ∧ KeepBut w w' g none := by
 have hu28 := Try.underlying28
 have hu59 := Try.underlying59
 have hu25 := Try.underlying25
 have HR1 := Aside0.mk hr1
 have HC1 := Aside0.mk hc1
 clear hr1 hc1
 have HI0 := Aside0.mk hI
 have HK := am (KeepBut.refl w g none)
 have HL := Aside0.mk hB.size
 clear hI
 have HW0 := Aside0.mk hB.size
 have HB := Aside0.mk hB
 clear hB
 have H : ((clusterlocksmill_Tape_Next.f s0_0 s0_1 1048576).bind fun bt347 => (clusterlocksmill_Expr.l0 k l1 bt347.1 ([] : List (S25)) 0 s0_0 bt347.2)) = some (r1, r2, r3, r4, r5, r6) := h
 clear h
 replace H := Option.bind_eq_some_iff.mp H
 obtain ⟨⟨t347, t348⟩, A30, H⟩ := H
 replace H : (clusterlocksmill_Expr.l0 k l1 t347 ([] : List (S25)) 0 s0_0 t348) = some (r1, r2, r3, r4, r5, r6) := H
 have A3 := Aside0.mk A30
 clear A30
 have H' := Aside0.mk H
 clear H
 go_enter Try.func20, Try.ntmps20
 go_wp2_with (first | ((with_reducible refine gate_dst (N := 4) rfl ?_); refine box_event ?hg (N := 4) ?hd (cs := #[.int .i64 0, .string (⟨#[]⟩ : ByteArray), .int .i64 0, .int .i64 0, .slice none 0 0]) (t := 28) ?hr ?_; (case hd => rfl); (case hg => rfl); (case hr => first | (go_simp; done) | (go_simp; rfl)); intro gb346 hg w4 hbox hb; have n0_ := am (IsS39.below (by repeat (first | (with_reducible first | exact HI0.out | apply IsS39.alloc | apply IsS39.drewN | apply IsS39.drew | apply IsS39.set_1) | exact HI0.out)) hb); have n1_ := am (KeepBut.trans (by repeat (first | (with_reducible first | exact HK.out | apply KeepBut.set_ | apply keep_drewN | apply keep_drew | apply keep_alloc) | exact HK.out)) (KeepBut.of_below hb g none) (.inl rfl)); have n2_ := am (below_step (by repeat (first | (with_reducible first | exact HB.out | apply ba | apply bd | apply be | refine below_set ?_ (IsS39.ge HI0.out)) | exact HB.out)) hb); have n3_ := am (hbox); have n4_ := am ((by rw [hg]; exact (keep_size (w := w) (g := g) (row := none) (by repeat (first | (with_reducible first | exact HK.out | apply KeepBut.set_ | apply keep_drewN | apply keep_drew | apply keep_alloc) | exact HK.out))) : w.heap.size ≤ gb346)); have n5_ := am ((Nat.le_trans HW0.out (by rw [hg]; exact (keep_size (w := w) (g := g) (row := none) (by repeat (first | (with_reducible first | exact HK.out | apply KeepBut.set_ | apply keep_drewN | apply keep_drew | apply keep_alloc) | exact HK.out))) : w.heap.size ≤ gb346) : w0.heap.size ≤ gb346)); have n6_ := am ((by rw [hg]; exact Nat.ne_of_lt (IsS39.lt (show IsS39 w0 _ g s0_0 s0_1 from by repeat (first | (with_reducible first | exact HI0.out | apply IsS39.alloc | apply IsS39.drewN | apply IsS39.drew | apply IsS39.set_1) | exact HI0.out))) : g ≠ gb346)); have n7_ := am ((by rw [hg]; exact Nat.ne_of_gt (IsS39.lt (show IsS39 w0 _ g s0_0 s0_1 from by repeat (first | (with_reducible first | exact HI0.out | apply IsS39.alloc | apply IsS39.drewN | apply IsS39.drew | apply IsS39.set_1) | exact HI0.out))) : gb346 ≠ g)); clear HI0 HK HB; have HI0 := n0_; have HK := n1_; have HB := n2_; have BK346 := n3_; have GW346 := n4_; have GE346 := n5_; have NB0_346 := n6_; have NB346_0 := n7_; clear n0_ n1_ n2_ n3_ n4_ n5_ n6_ n7_; clear hb hbox hg) | ((with_reducible refine gate_callee (f := 35) rfl ?_); refine goesL_ (some 9) rfl rfl Try.func35 (by kernel_rfl) rfl #[.pointer (some ⟨g, 0, none⟩), .int .i64 1048576] rfl mp2 ?_; (with_reducible refine (clusterlocksmill_Tape_Next.calls g s0_0 s0_1 1048576 t347 t348 w0 _ ?side1 ?side2 A3.out).mono ?_); (case side1 => repeat (first | (with_reducible first | exact HI0.out | apply IsS39.alloc | apply IsS39.drewN | apply IsS39.drew | apply IsS39.set_1 | refine IsS39.far ?_ NB0_346.out _) | exact HI0.out)); (case side2 => repeat (first | (with_reducible first | exact HB.out | apply ba | apply bd | apply be | refine below_set ?_ (IsS39.ge HI0.out) | refine below_set ?_ GE346.out) | exact HB.out)); rintro e w5 ⟨rfl, hi, hb, hk⟩; refine ⟨_, rfl, ?_⟩; have n0_ := am (KeepBut.blk hk (g' := gb346) (o := .cells #[.int .i64 0, .string (⟨#[]⟩ : ByteArray), .int .i64 0, .int .i64 0, .slice none 0 0] 28 (0, 0)) (zB BK346.out) NB346_0.out (by simp)); have n1_ := am (KeepBut.trans (by repeat (first | (with_reducible first | exact HK.out | apply KeepBut.set_ | apply keep_drewN | apply keep_drew | apply keep_alloc | refine keep_far ?_ GW346.out _) | exact HK.out)) hk (.inl rfl)); have n2_ := am (hb); have n3_ := am (hi); clear BK346 HK HB HI0; have BK346 := n0_; have HK := n1_; have HB := n2_; have HI0 := n3_; clear n0_ n1_ n2_ n3_; (try clear hb); (try clear hb2); (try clear hk); (try clear hi)))
 go_loopg [6, 7] k (fun kq v6 v7 w' => ∃ (x6_1 : List (S25)) (x7_1 : Int), v7 = .int .i64 x7_1 ∧ Aside0 (clusterlocksmill_Expr.l0 kq l1 t347 x6_1 x7_1 s0_0 t348 = some (r1, r2, r3, r4, r5, r6)) ∧ Aside0 (kq ≤ k) ∧ Aside0 (Kd.R k25 25 w' w.heap.size (fun _ => True) v6 x6_1) ∧ Aside0 (w'.heap[gb346]? = some (.cells #[.int .i64 0, .string (⟨#[]⟩ : ByteArray), .int .i64 0, .int .i64 0, (.slice none 0 0)] 28 (0, 0))) ∧ Aside0 (IsS39 w0 w' g s0_0 t348) ∧ Aside0 (KeepBut w w' g none) ∧ Aside0 (Below w0.heap.size w0 w'))
 case atStart => exact ⟨(([] : List (S25))), (0), (by first | rfl | (simp; done) | (simp [*]; done)), H', ⟨Nat.le_refl _⟩, ⟨by first | exact Kd.R_nil _ _ _ _ _ | exact Kd.N_nil _ _ _ _ _ | exact Kd.V_nil _ _ _ _ _ | exact Kd.Q_nil _ _ _ _ _ | exact Kd.S_nil _ _ _ _ _⟩, ⟨by exact zB <| BK346.out⟩, ⟨by repeat (first | (with_reducible first | exact HI0.out | apply IsS39.alloc | apply IsS39.drewN | apply IsS39.drew | apply IsS39.set_1 | refine IsS39.far ?_ NB0_346.out _) | exact HI0.out)⟩, ⟨by repeat (first | (with_reducible first | exact HK.out | apply KeepBut.set_ | apply keep_drewN | apply keep_drew | apply keep_alloc | refine keep_far ?_ GW346.out _) | exact HK.out)⟩, ⟨by repeat (first | (with_reducible first | exact HB.out | apply ba | apply bd | apply be | refine below_set ?_ (IsS39.ge HI0.out) | refine below_set ?_ GE346.out) | exact HB.out)⟩⟩
 case round =>
  clear H'
  try clear c1
  try clear c2
  try clear p2
  try clear c3
  obtain ⟨x6_1, x7_1, rfl, HA, HK1, HO_6, BK346, HI0, HK, HB⟩ := hrel
  cases gk with
  | zero => exact absurd HA.out (by simp [clusterlocksmill_Expr.l0])
  | succ k1 =>
   have H := HA.out
   clear HA
   simp only [clusterlocksmill_Expr.l0] at H
   by_cases c6 : x7_1 < (l1.length : Int)
   ·rw [if_pos c6] at H
    have c6b0 : decide (x7_1 < (l1.length : Int)) = true := decide_eq_true c6
    clear c6
    by_cases c7 : 0 ≤ x7_1
    ·rw [if_pos c7] at H
     have c7b0 : decide (0 ≤ x7_1) = true := decide_eq_true c7
     clear c7
     obtain ⟨ji8, hji8⟩ : ∃ j_ : Int, (IntKind.u64.wrap (wrap64 (3 * x7_1))) = j_ := ⟨_, rfl⟩
     replace H : (if 0 ≤ (ji8) then ((clusterlocksmill_Amount.f ((rd_T59 l1 x7_1).f0) ((rd_T59 l1 x7_1).f1) ((rd_T59 l1 x7_1).f2) ((rd_T59 l1 x7_1).f3) (shr .i64 t347 (ji8))).bind fun bt351 => (if x6_1.length < 4398046511104 then (clusterlocksmill_Expr.l0 k1 l1 t347 (x6_1 ++ [(⟨(rd_T59 l1 x7_1).f0, (⟨bt351.1, bt351.2⟩ : S23)⟩ : S25)]) (wrap64 (x7_1 + 1)) s0_0 t348) else (none))) else (none)) = some (r1, r2, r3, r4, r5, r6) := by first | (rw [hji8] at H; exact H) | (simp only [hji8] at H ⊢; exact H)
     by_cases c9 : 0 ≤ (ji8)
     ·rw [if_pos c9] at H
      have c9b0 := eq_true c9
      have c9b1 : decide (0 ≤ (ji8)) = true := decide_eq_true c9
      clear c9
      obtain ⟨ji10, hji10⟩ : ∃ j_ : Int, (shr .i64 t347 (ji8)) = j_ := ⟨_, rfl⟩
      replace H : ((clusterlocksmill_Amount.f ((rd_T59 l1 x7_1).f0) ((rd_T59 l1 x7_1).f1) ((rd_T59 l1 x7_1).f2) ((rd_T59 l1 x7_1).f3) (ji10)).bind fun bt351 => (if x6_1.length < 4398046511104 then (clusterlocksmill_Expr.l0 k1 l1 t347 (x6_1 ++ [(⟨(rd_T59 l1 x7_1).f0, (⟨bt351.1, bt351.2⟩ : S23)⟩ : S25)]) (wrap64 (x7_1 + 1)) s0_0 t348) else (none))) = some (r1, r2, r3, r4, r5, r6) := by first | (rw [hji10] at H; exact H) | (simp only [hji10] at H ⊢; exact H)
      have hji10_ : (t347 / 2 ^ min (ji8).toNat 64) = ji10 := hji10
      have hji10z : (ji8) ≤ 64 → (t347 / 2 ^ (ji8).toNat) = ji10 := shr_small hji10
      replace H := Option.bind_eq_some_iff.mp H
      obtain ⟨⟨t351, t352⟩, A110, H⟩ := H
      replace H : (if x6_1.length < 4398046511104 then (clusterlocksmill_Expr.l0 k1 l1 t347 (x6_1 ++ [(⟨(rd_T59 l1 x7_1).f0, (⟨t351, t352⟩ : S23)⟩ : S25)]) (wrap64 (x7_1 + 1)) s0_0 t348) else (none)) = some (r1, r2, r3, r4, r5, r6) := H
      have A11 := Aside0.mk A110
      clear A110
      by_cases c12 : x6_1.length < 4398046511104
      ·rw [if_pos c12] at H
       have LMc12 := Aside0.mk c12
       clear c12
       obtain ⟨y353, hy353⟩ : ∃ y_ : List (S25), y_ = (x6_1 ++ [(⟨(rd_T59 l1 x7_1).f0, (⟨t351, t352⟩ : S23)⟩ : S25)]) := ⟨_, rfl⟩
       replace H : (clusterlocksmill_Expr.l0 k1 l1 t347 y353 (wrap64 (x7_1 + 1)) s0_0 t348) = some (r1, r2, r3, r4, r5, r6) := by first | (rw [hy353]; with_reducible exact H) | (have H2_ := (Option.bind_some _ _).symm.trans H; rw [hy353]; with_reducible exact H2_) | (have H2_ := (Option.bind_some _ _).symm.trans H; with_reducible exact H2_) | with_reducible exact H | (rw [hy353]; exact H) | exact H
       have Ny353 := Aside0.mk hy353
       clear hy353
       have H' := Aside0.mk H
       clear H
       try go_wp2
       have n0_ := am (Kd.R_drew HO_6.out)
       have n1_ := am (blk_drew BK346.out)
       have n2_ := am (IsS39.drew HI0.out)
       have n3_ := am (keep_drew HK.out)
       have n4_ := am (below_drew1 HB.out)
       clear HO_6 BK346 HI0 HK HB
       have HO_6 := n0_
       have BK346 := n1_
       have HI0 := n2_
       have HK := n3_
       have HB := n4_
       clear n0_ n1_ n2_ n3_ n4_
       have p349 : 0 ≤ (x7_1 : Int) := of_decide_eq_true (by first | (with_reducible assumption) | assumption)
       have q349 : x7_1 < (l1.length : Int) := of_decide_eq_true (by first | (with_reducible assumption) | assumption)
       obtain ⟨ad349, e349, hx349_0, hx349_1, hx349_2, hx349_3⟩ := at_T59 (Kd.C_foot_now HR1.out HK.out) x7_1 p349 q349
       have hw349_3 := hx349_3
       have hw349_2 := hx349_2
       have hw349_1 := hx349_1
       have hw349_0 := hx349_0
       cases e349
       have hne349_3 := (show (⟨(ad349.add ((x7_1).toNat * 4)).block, (ad349.add ((x7_1).toNat * 4)).off + 3, none⟩ : Addr).block ≠ g from by first | (rw [add_block]; exact Kd.foot_ne HR1.out (by omega) (by decide)) | (show (Addr.add _ _).block ≠ _; rw [add_block]; exact Kd.foot_ne HR1.out (by omega) (by decide)) | exact Kd.foot_ne HR1.out (by omega) (by decide) | (dsimp only; exact Kd.foot_ne HR1.out (by omega) (by decide)))
       have hlt349_3 := (Kd.foot_lt HR1.out (by omega) (by decide))
       have hne349_2 := (show (⟨(ad349.add ((x7_1).toNat * 4)).block, (ad349.add ((x7_1).toNat * 4)).off + 2, none⟩ : Addr).block ≠ g from by first | (rw [add_block]; exact Kd.foot_ne HR1.out (by omega) (by decide)) | (show (Addr.add _ _).block ≠ _; rw [add_block]; exact Kd.foot_ne HR1.out (by omega) (by decide)) | exact Kd.foot_ne HR1.out (by omega) (by decide) | (dsimp only; exact Kd.foot_ne HR1.out (by omega) (by decide)))
       have hlt349_2 := (Kd.foot_lt HR1.out (by omega) (by decide))
       have hne349_1 := (show (⟨(ad349.add ((x7_1).toNat * 4)).block, (ad349.add ((x7_1).toNat * 4)).off + 1, none⟩ : Addr).block ≠ g from by first | (rw [add_block]; exact Kd.foot_ne HR1.out (by omega) (by decide)) | (show (Addr.add _ _).block ≠ _; rw [add_block]; exact Kd.foot_ne HR1.out (by omega) (by decide)) | exact Kd.foot_ne HR1.out (by omega) (by decide) | (dsimp only; exact Kd.foot_ne HR1.out (by omega) (by decide)))
       have hlt349_1 := (Kd.foot_lt HR1.out (by omega) (by decide))
       have hne349_0 := (show ((ad349.add ((x7_1).toNat * 4)) : Addr).block ≠ g from by first | (rw [add_block]; exact Kd.foot_ne HR1.out (by omega) (by decide)) | (show (Addr.add _ _).block ≠ _; rw [add_block]; exact Kd.foot_ne HR1.out (by omega) (by decide)) | exact Kd.foot_ne HR1.out (by omega) (by decide) | (dsimp only; exact Kd.foot_ne HR1.out (by omega) (by decide)))
       have hlt349_0 := (Kd.foot_lt HR1.out (by omega) (by decide))
       replace p349 := eq_true p349
       replace q349 := eq_true q349
       have p350 : 0 ≤ (x7_1 : Int) := of_decide_eq_true (by first | (with_reducible assumption) | assumption)
       have q350 : x7_1 < (l1.length : Int) := of_decide_eq_true (by first | (with_reducible assumption) | assumption)
       obtain ⟨ad350, e350, hx350_0, hx350_1, hx350_2, hx350_3⟩ := at_T59 (Kd.C_foot_now HR1.out HK.out) x7_1 p350 q350
       have hw350_3 := hx350_3
       have hw350_2 := hx350_2
       have hw350_1 := hx350_1
       have hw350_0 := hx350_0
       obtain rfl : ad349 = ad350 := (by injection e350)
       have hne350_3 := (show (⟨(ad349.add ((x7_1).toNat * 4)).block, (ad349.add ((x7_1).toNat * 4)).off + 3, none⟩ : Addr).block ≠ g from by first | (rw [add_block]; exact Kd.foot_ne HR1.out (by omega) (by decide)) | (show (Addr.add _ _).block ≠ _; rw [add_block]; exact Kd.foot_ne HR1.out (by omega) (by decide)) | exact Kd.foot_ne HR1.out (by omega) (by decide) | (dsimp only; exact Kd.foot_ne HR1.out (by omega) (by decide)))
       have hlt350_3 := (Kd.foot_lt HR1.out (by omega) (by decide))
       have hne350_2 := (show (⟨(ad349.add ((x7_1).toNat * 4)).block, (ad349.add ((x7_1).toNat * 4)).off + 2, none⟩ : Addr).block ≠ g from by first | (rw [add_block]; exact Kd.foot_ne HR1.out (by omega) (by decide)) | (show (Addr.add _ _).block ≠ _; rw [add_block]; exact Kd.foot_ne HR1.out (by omega) (by decide)) | exact Kd.foot_ne HR1.out (by omega) (by decide) | (dsimp only; exact Kd.foot_ne HR1.out (by omega) (by decide)))
       have hlt350_2 := (Kd.foot_lt HR1.out (by omega) (by decide))
       have hne350_1 := (show (⟨(ad349.add ((x7_1).toNat * 4)).block, (ad349.add ((x7_1).toNat * 4)).off + 1, none⟩ : Addr).block ≠ g from by first | (rw [add_block]; exact Kd.foot_ne HR1.out (by omega) (by decide)) | (show (Addr.add _ _).block ≠ _; rw [add_block]; exact Kd.foot_ne HR1.out (by omega) (by decide)) | exact Kd.foot_ne HR1.out (by omega) (by decide) | (dsimp only; exact Kd.foot_ne HR1.out (by omega) (by decide)))
       have hlt350_1 := (Kd.foot_lt HR1.out (by omega) (by decide))
       have hne350_0 := (show ((ad349.add ((x7_1).toNat * 4)) : Addr).block ≠ g from by first | (rw [add_block]; exact Kd.foot_ne HR1.out (by omega) (by decide)) | (show (Addr.add _ _).block ≠ _; rw [add_block]; exact Kd.foot_ne HR1.out (by omega) (by decide)) | exact Kd.foot_ne HR1.out (by omega) (by decide) | (dsimp only; exact Kd.foot_ne HR1.out (by omega) (by decide)))
       have hlt350_0 := (Kd.foot_lt HR1.out (by omega) (by decide))
       replace p350 := eq_true p350
       replace q350 := eq_true q350
       refine start_ (n := 20) (S := fun w' => w'.cell? (ad349.add ((x7_1).toNat * 4)) = some (.string ((rd_T59 l1 x7_1).f0)) ∧ w'.cell? ⟨(ad349.add ((x7_1).toNat * 4)).block, (ad349.add ((x7_1).toNat * 4)).off + 1, none⟩ = some (.int .i64 ((rd_T59 l1 x7_1).f1)) ∧ w'.cell? ⟨(ad349.add ((x7_1).toNat * 4)).block, (ad349.add ((x7_1).toNat * 4)).off + 2, none⟩ = some (.int .i64 ((rd_T59 l1 x7_1).f2)) ∧ w'.cell? ⟨(ad349.add ((x7_1).toNat * 4)).block, (ad349.add ((x7_1).toNat * 4)).off + 3, none⟩ = some (.int .i64 ((rd_T59 l1 x7_1).f3)) ∧ w'.cell? (ad349.add ((x7_1).toNat * 4)) = some (.string ((rd_T59 l1 x7_1).f0)) ∧ w'.cell? ⟨(ad349.add ((x7_1).toNat * 4)).block, (ad349.add ((x7_1).toNat * 4)).off + 1, none⟩ = some (.int .i64 ((rd_T59 l1 x7_1).f1)) ∧ w'.cell? ⟨(ad349.add ((x7_1).toNat * 4)).block, (ad349.add ((x7_1).toNat * 4)).off + 2, none⟩ = some (.int .i64 ((rd_T59 l1 x7_1).f2)) ∧ w'.cell? ⟨(ad349.add ((x7_1).toNat * 4)).block, (ad349.add ((x7_1).toNat * 4)).off + 3, none⟩ = some (.int .i64 ((rd_T59 l1 x7_1).f3))) (ds := [17, 18]) #[false, false, false, false, false, false, false, false, false, false, false, false, false, false, false, false, false, false, false, false] (by kernel_rfl) rfl rfl ⟨hx349_0, hx349_1, hx349_2, hx349_3, hx350_0, hx350_1, hx350_2, hx350_3⟩ (fun hHeld => ?_); refine with_tabW clusterlocksmill_Expr.tab6 clusterlocksmill_Expr.bits6 (fun HT_ HW_ => ?_)
       generalize wr.drew = w13 at HO_6 BK346 HI0 HK HB hx349_0 hx349_1 hx349_2 hx349_3 hx350_0 hx350_1 hx350_2 hx350_3 hHeld ⊢
       refine pure_ (i := 0) (N := some 16) (v := ?_) (a' := ?_) #[true, false, false, false, false, false, false, false, false, false, false, false, false, false, false, false, false, false, false, false] rfl rfl (any_of HT_.out (by kernel_rfl)) (fun _ _ _ h => h) (Or.inl ⟨by rfl, ?_⟩) ?_ ?_
       rotate_left
       ·intro w'
        go_simp
        with_reducible rfl
       rotate_left
       ·simp only [Act.put, List.setIfInBounds_toArray, List.set_cons_zero, List.set_cons_succ, i64_w, i32_w]
        rfl
       refine pure_ (i := 1) (N := some 17) (v := ?_) (a' := ?_) #[true, true, false, false, false, false, false, false, false, false, false, false, false, false, false, false, false, false, false, false] rfl rfl (any_of HT_.out (by kernel_rfl)) (fun _ _ _ h => h) (Or.inl ⟨by rfl, ?_⟩) ?_ ?_
       rotate_left
       ·intro w'
        go_simp
        with_reducible rfl
       rotate_left
       ·simp only [Act.put, List.setIfInBounds_toArray, List.set_cons_zero, List.set_cons_succ, i64_w, i32_w]
        rfl
       refine pure_ (i := 2) (N := some 18) (v := ?_) (a' := ?_) #[true, true, true, false, false, false, false, false, false, false, false, false, false, false, false, false, false, false, false, false] rfl rfl (any_of HT_.out (by kernel_rfl)) (fun _ _ _ h => h) (Or.inl ⟨by rfl, ?_⟩) ?_ ?_
       rotate_left
       ·intro w'
        go_simp
        with_reducible rfl
       rotate_left
       ·simp only [Act.put, List.setIfInBounds_toArray, List.set_cons_zero, List.set_cons_succ, i64_w, i32_w]
        rfl
       refine pure_ (i := 3) (N := some 19) (v := ?_) (a' := ?_) #[true, true, true, true, false, false, false, false, false, false, false, false, false, false, false, false, false, false, false, false] rfl rfl (any_of HT_.out (by kernel_rfl)) (fun _ _ _ h => h) (Or.inl ⟨by rfl, ?_⟩) ?_ ?_
       rotate_left
       ·intro w'
        go_simp
        with_reducible rfl
       rotate_left
       ·simp only [Act.put, List.setIfInBounds_toArray, List.set_cons_zero, List.set_cons_succ, i64_w, i32_w]
        rfl
       refine pure_ (i := 4) (N := some 20) (v := ?_) (a' := ?_) #[true, true, true, true, true, false, false, false, false, false, false, false, false, false, false, false, false, false, false, false] rfl rfl (any_of HT_.out (by kernel_rfl)) (fun _ _ _ h => h) (Or.inl ⟨by rfl, ?_⟩) ?_ ?_
       rotate_left
       ·intro w'
        go_simp
        with_reducible rfl
       rotate_left
       ·simp only [Act.put, List.setIfInBounds_toArray, List.set_cons_zero, List.set_cons_succ, i64_w, i32_w]
        rfl
       refine pure_ (i := 6) (N := some 22) (v := ?_) (a' := ?_) #[true, true, true, true, true, false, true, false, false, false, false, false, false, false, false, false, false, false, false, false] rfl rfl (any_of HT_.out (by kernel_rfl)) (fun _ _ _ h => h) (Or.inl ⟨by rfl, ?_⟩) ?_ ?_
       rotate_left
       ·intro w'
        go_simp
        with_reducible rfl
       rotate_left
       ·simp only [Act.put, List.setIfInBounds_toArray, List.set_cons_zero, List.set_cons_succ, i64_w, i32_w]
        rfl
       refine pure_ (i := 7) (N := some 23) (v := ?_) (a' := ?_) #[true, true, true, true, true, false, true, true, false, false, false, false, false, false, false, false, false, false, false, false] rfl rfl (any_of HT_.out (by kernel_rfl)) (fun _ _ _ h => h) (Or.inl ⟨by rfl, ?_⟩) ?_ ?_
       rotate_left
       ·intro w'
        go_simp
        with_reducible rfl
       rotate_left
       ·simp only [Act.put, List.setIfInBounds_toArray, List.set_cons_zero, List.set_cons_succ, i64_w, i32_w]
        rfl
       refine pure_ (i := 8) (N := some 24) (v := ?_) (a' := ?_) #[true, true, true, true, true, false, true, true, true, false, false, false, false, false, false, false, false, false, false, false] rfl rfl (any_of HT_.out (by kernel_rfl)) (fun _ _ _ h => h) (Or.inl ⟨by rfl, ?_⟩) ?_ ?_
       rotate_left
       ·intro w'
        go_simp
        with_reducible rfl
       rotate_left
       ·simp only [Act.put, List.setIfInBounds_toArray, List.set_cons_zero, List.set_cons_succ, i64_w, i32_w]
        rfl
       refine pure_ (i := 10) (N := some 26) (v := ?_) (a' := ?_) #[true, true, true, true, true, false, true, true, true, false, true, false, false, false, false, false, false, false, false, false] rfl rfl (any_of HT_.out (by kernel_rfl)) (fun _ _ _ h => h) (Or.inl ⟨by rfl, ?_⟩) ?_ ?_
       rotate_left
       ·intro w'
        go_simp
        with_reducible rfl
       rotate_left
       ·simp only [Act.put, List.setIfInBounds_toArray, List.set_cons_zero, List.set_cons_succ, i64_w, i32_w]
        rfl
       refine pure_ (i := 11) (N := some 27) (v := ?_) (a' := ?_) #[true, true, true, true, true, false, true, true, true, false, true, true, false, false, false, false, false, false, false, false] rfl rfl (any_of HT_.out (by kernel_rfl)) (fun _ _ _ h => h) (Or.inl ⟨by rfl, ?_⟩) ?_ ?_
       rotate_left
       ·intro w'
        go_simp
        with_reducible rfl
       rotate_left
       ·simp only [Act.put, List.setIfInBounds_toArray, List.set_cons_zero, List.set_cons_succ, i64_w, i32_w]
        rfl
       refine pure_ (i := 12) (N := some 28) (v := ?_) (a' := ?_) #[true, true, true, true, true, false, true, true, true, false, true, true, true, false, false, false, false, false, false, false] rfl rfl (any_of HT_.out (by kernel_rfl)) (fun _ _ _ h => h) (Or.inl ⟨by rfl, ?_⟩) ?_ ?_
       rotate_left
       ·intro w'
        go_simp
        with_reducible rfl
       rotate_left
       ·simp only [Act.put, List.setIfInBounds_toArray, List.set_cons_zero, List.set_cons_succ, i64_w, i32_w]
        rfl
       refine pure_ (i := 13) (N := some 29) (v := ?_) (a' := ?_) #[true, true, true, true, true, false, true, true, true, false, true, true, true, true, false, false, false, false, false, false] rfl rfl (any_of HT_.out (by kernel_rfl)) (fun _ _ _ h => h) (Or.inl ⟨by rfl, ?_⟩) ?_ ?_
       rotate_left
       ·intro w'
        go_simp
        with_reducible rfl
       rotate_left
       ·simp only [Act.put, List.setIfInBounds_toArray, List.set_cons_zero, List.set_cons_succ, i64_w, i32_w]
        rfl
       refine pure_ (i := 14) (N := some 30) (v := ?_) (a' := ?_) #[true, true, true, true, true, false, true, true, true, false, true, true, true, true, true, false, false, false, false, false] rfl rfl (any_of HT_.out (by kernel_rfl)) (fun _ _ _ h => h) (Or.inl ⟨by rfl, ?_⟩) ?_ ?_
       rotate_left
       ·intro w'
        go_simp
        with_reducible rfl
       rotate_left
       ·simp only [Act.put, List.setIfInBounds_toArray, List.set_cons_zero, List.set_cons_succ, i64_w, i32_w]
        rfl
       refine take_ (i := 5) (N := some 21) (v := ?_) (a' := ?_) #[true, true, true, true, true, true, true, true, true, false, true, true, true, true, true, false, false, false, false, false] rfl rfl (take_ofW HT_.out HW_.out (by kernel_rfl)) (fun _ _ _ h => h) (Or.inl ⟨by rfl, ?_⟩) hHeld ?_ ?_
       rotate_left
       ·rintro w' ⟨s0, s1, s2, s3, s4, s5, s6, s7⟩
        go_simp
        with_reducible rfl
       rotate_left
       ·simp only [Act.put, List.setIfInBounds_toArray, List.set_cons_zero, List.set_cons_succ, i64_w, i32_w]
        rfl
       refine take_ (i := 9) (N := some 25) (v := ?_) (a' := ?_) #[true, true, true, true, true, true, true, true, true, true, true, true, true, true, true, false, false, false, false, false] rfl rfl (take_ofW HT_.out HW_.out (by kernel_rfl)) (fun _ _ _ h => h) (Or.inl ⟨by rfl, ?_⟩) hHeld ?_ ?_
       rotate_left
       ·rintro w' ⟨s0, s1, s2, s3, s4, s5, s6, s7⟩
        go_simp
        with_reducible rfl
       rotate_left
       ·simp only [Act.put, List.setIfInBounds_toArray, List.set_cons_zero, List.set_cons_succ, i64_w, i32_w]
        rfl
       refine one_ (i := 15) (N := some 31) #[true, true, true, true, true, true, true, true, true, true, true, true, true, true, true, true, false, false, false, false] rfl rfl (one_of HT_.out (by kernel_rfl)) (by decide) (fun K hK => ?_)
       refine goes_ Try.func36 (by kernel_rfl) rfl #[.agg #[.string ((rd_T59 l1 x7_1).f0), .int .i64 ((rd_T59 l1 x7_1).f1), .int .i64 ((rd_T59 l1 x7_1).f2), .int .i64 ((rd_T59 l1 x7_1).f3)], .int .i64 ji10] (by rfl) rfl rfl (by (try simp only [List.map_toArray, List.map_cons, List.map_nil]); first | done | (simp only [hji10]; rfl) | rfl | (simp only [List.length_drop, List.length_take]; rfl)) ?_
       with_reducible refine (clusterlocksmill_Amount.calls ((rd_T59 l1 x7_1).f0) ((rd_T59 l1 x7_1).f1) ((rd_T59 l1 x7_1).f2) ((rd_T59 l1 x7_1).f3) ji10 t351 t352 _ A11.out).mono ?_
       rintro e w14 ⟨rfl, hb⟩
       have HS0_ := (hb.cell (World.block_lt_of_cell? _ _ (hHeld.1))).trans (hHeld.1)
       have HS1_ := (hb.cell (World.block_lt_of_cell? _ _ (hHeld.2.1))).trans (hHeld.2.1)
       have HS2_ := (hb.cell (World.block_lt_of_cell? _ _ (hHeld.2.2.1))).trans (hHeld.2.2.1)
       have HS3_ := (hb.cell (World.block_lt_of_cell? _ _ (hHeld.2.2.2.1))).trans (hHeld.2.2.2.1)
       have HS4_ := (hb.cell (World.block_lt_of_cell? _ _ (hHeld.2.2.2.2.1))).trans (hHeld.2.2.2.2.1)
       have HS5_ := (hb.cell (World.block_lt_of_cell? _ _ (hHeld.2.2.2.2.2.1))).trans (hHeld.2.2.2.2.2.1)
       have HS6_ := (hb.cell (World.block_lt_of_cell? _ _ (hHeld.2.2.2.2.2.2.1))).trans (hHeld.2.2.2.2.2.2.1)
       have HS7_ := (hb.cell (World.block_lt_of_cell? _ _ (hHeld.2.2.2.2.2.2.2))).trans (hHeld.2.2.2.2.2.2.2)
       refine ⟨_, rfl, ?_⟩
       have n0_ := am (Kd.R_below (zR HO_6.out) hb)
       have n1_ := am (blk_below (zB BK346.out) hb)
       have n2_ := am (IsS39.below (by repeat (first | (with_reducible first | exact HI0.out | apply IsS39.alloc | apply IsS39.drewN | apply IsS39.drew | apply IsS39.set_1 | refine IsS39.far ?_ NB0_346.out _) | exact HI0.out)) hb)
       have n3_ := am (KeepBut.trans (by repeat (first | (with_reducible first | exact HK.out | apply KeepBut.set_ | apply keep_drewN | apply keep_drew | apply keep_alloc | refine keep_far ?_ GW346.out _) | exact HK.out)) (KeepBut.of_below hb g none) (.inl rfl))
       have n4_ := am (below_step (by repeat (first | (with_reducible first | exact HB.out | apply ba | apply bd | apply be | refine below_set ?_ (IsS39.ge HI0.out) | refine below_set ?_ GE346.out) | exact HB.out)) hb)
       clear HO_6 BK346 HI0 HK HB
       have HO_6 := n0_
       have BK346 := n1_
       have HI0 := n2_
       have HK := n3_
       have HB := n4_
       clear n0_ n1_ n2_ n3_ n4_
       (try clear hb)
       (try clear hb2)
       (try clear hk)
       (try clear hi)
       refine hK.out _ _ ⟨HS0_, HS1_, HS2_, HS3_, HS4_, HS5_, HS6_, HS7_⟩ (fun hHeld => ?_)
       clear hK K
       refine norm_ (a' := ?_) ?_ ?_
       rotate_left
       ·show Act.put _ (some 31) _ = _
        simp only [Act.put, List.setIfInBounds_toArray, List.set_cons_zero, List.set_cons_succ, i64_w, i32_w]
        rfl
       refine pure_ (i := 16) (N := some 32) (v := ?_) (a' := ?_) #[true, true, true, true, true, true, true, true, true, true, true, true, true, true, true, true, true, false, false, false] rfl rfl (any_of HT_.out (by kernel_rfl)) (fun _ _ _ h => h) (Or.inl ⟨by rfl, ?_⟩) ?_ ?_
       rotate_left
       ·intro w'
        go_simp
        with_reducible rfl
       rotate_left
       ·simp only [Act.put, List.setIfInBounds_toArray, List.set_cons_zero, List.set_cons_succ, i64_w, i32_w]
        rfl
       refine last_ (i := 17) (N := some 33) #[true, true, true, true, true, true, true, true, true, true, true, true, true, true, true, true, true, true, false, false] rfl rfl (one_of HT_.out (by kernel_rfl)) (by decide) (fun K hK => ?_)
       refine value_ (w1 := ?_) (v := ?_) (by rfl) rfl ?_ ?_
       rotate_left 2
       ·go_simp
        constructor
        ·rfl
        ·rfl
       refine hK.out _ _ ?_
       clear hK K
       refine norm_ (a' := ?_) ?_ ?_
       rotate_left
       ·show Act.put _ (some 33) _ = _
        simp only [Act.put, List.setIfInBounds_toArray, List.set_cons_zero, List.set_cons_succ, i64_w, i32_w]
        rfl
       refine last_ (i := 18) (N := some 34) #[true, true, true, true, true, true, true, true, true, true, true, true, true, true, true, true, true, true, true, false] rfl rfl (one_of HT_.out (by kernel_rfl)) (by decide) (fun K hK => ?_)
       refine Kd.R_append_step k25 w.heap.size (by rfl) (.tmp 16) (.tmp 33) 29 25 (.agg #[(.string ⟨#[]⟩), (.int .i64 0), (.int .i64 0)]) 32 rfl Try.underlying29 info25 rfl (by decide) (by omega) u6 x6_1 (⟨(rd_T59 l1 x7_1).f0, (⟨t351, t352⟩ : S23)⟩ : S25) [.string ((rd_T59 l1 x7_1).f0), .int .i64 t351, .int .i64 t352] (fun _ => True) (fun _ => False) rfl rfl ?aP (fun _ hk => hk.elim) ?aF ?aO (Below.refl _ _) ?aS ?aL ?_
       (case aP => exact k25_mkM _ _ _ (⟨(rd_T59 l1 x7_1).f0, (⟨t351, t352⟩ : S23)⟩ : S25))
       (case aF => exact (fun _ _ => trivial))
       (case aO => exact (zR HO_6.out))
       (case aS => exact (keep_size (w := w) (g := g) (row := none) (by repeat (first | (with_reducible first | exact HK.out | apply KeepBut.set_ | apply keep_drewN | apply keep_drew | apply keep_alloc | refine keep_far ?_ GW346.out _) | exact HK.out))))
       (case aL => have := LMc12.out; omega)
       intro v354 w15 ho hb hg hat
       rw [← Ny353.out] at ho
       have n0_ := am (blk_grown (g := gb346) (o := .cells #[.int .i64 0, .string (⟨#[]⟩ : ByteArray), .int .i64 0, .int .i64 0, .slice none 0 0] 28 (0, 0)) (zB BK346.out) hg (Kd.R_ne HO_6.out BK346.out (by decide)))
       have n1_ := am (IsS39.grown (by repeat (first | (with_reducible first | exact HI0.out | apply IsS39.alloc | apply IsS39.drewN | apply IsS39.drew | apply IsS39.set_1 | refine IsS39.far ?_ NB0_346.out _) | exact HI0.out)) hg (IsS39.own_ne HI0.out HO_6.out (by decide)))
       have n2_ := am (below_weaken (by repeat (first | (with_reducible first | exact HB.out | apply ba | apply bd | apply be | refine below_set ?_ (IsS39.ge HI0.out) | refine below_set ?_ GE346.out) | exact HB.out)) HL.out hb)
       have n3_ := am (KeepBut.trans (by repeat (first | (with_reducible first | exact HK.out | apply KeepBut.set_ | apply keep_drewN | apply keep_drew | apply keep_alloc | refine keep_far ?_ GW346.out _) | exact HK.out)) (KeepBut.of_grown hg g) (Kd.R_base2 HO_6.out))
       have n4_ := am (ho)
       clear BK346 HI0 HB HK HO_6
       have BK346 := n0_
       have HI0 := n1_
       have HB := n2_
       have HK := n3_
       have HO355 := n4_
       clear n0_ n1_ n2_ n3_ n4_
       clear ho hb hg hat
       refine hK.out _ _ ?_
       clear hK K
       refine norm_ (a' := ?_) ?_ ?_
       rotate_left
       ·show Act.put _ (some 34) _ = _
        simp only [Act.put, List.setIfInBounds_toArray, List.set_cons_zero, List.set_cons_succ, i64_w, i32_w]
        rfl
       refine pure_ (i := 19) (N := some 6) (v := ?_) (a' := ?_) #[true, true, true, true, true, true, true, true, true, true, true, true, true, true, true, true, true, true, true, true] rfl rfl (any_of HT_.out (by kernel_rfl)) (fun _ _ _ h => h) (Or.inl ⟨by rfl, ?_⟩) ?_ ?_
       rotate_left
       ·intro w'
        go_simp
        with_reducible rfl
       rotate_left
       ·simp only [Act.put, List.setIfInBounds_toArray, List.set_cons_zero, List.set_cons_succ, i64_w, i32_w]
        rfl
       refine done_ (done_of HT_.out (by kernel_rfl)) ?_
       try go_wp2
       go_roundg k1
       case measure => have := HK1.out; omega
       case rel => exact ⟨(y353), (wrap64 (x7_1 + 1)), (by first | rfl | (simp; done) | (simp [*]; done)), H', ⟨by have := HK1.out; omega⟩, ⟨by exact zR HO355.out⟩, ⟨by exact zB <| BK346.out⟩, ⟨by repeat (first | (with_reducible first | exact HI0.out | apply IsS39.alloc | apply IsS39.drewN | apply IsS39.drew | apply IsS39.set_1 | refine IsS39.far ?_ NB0_346.out _) | exact HI0.out)⟩, ⟨by repeat (first | (with_reducible first | exact HK.out | apply KeepBut.set_ | apply keep_drewN | apply keep_drew | apply keep_alloc | refine keep_far ?_ GW346.out _) | exact HK.out)⟩, ⟨by repeat (first | (with_reducible first | exact HB.out | apply ba | apply bd | apply be | refine below_set ?_ (IsS39.ge HI0.out) | refine below_set ?_ GE346.out) | exact HB.out)⟩⟩
      ·rw [if_neg c12] at H
       exact absurd H (by simp)
     ·rw [if_neg c9] at H
      exact absurd H (by simp)
    ·rw [if_neg c7] at H
     exact absurd H (by simp)
   ·rw [if_neg c6] at H
    have c6b0 : decide (x7_1 < (l1.length : Int)) = false := decide_eq_false c6
    clear c6
    replace H := Option.bind_eq_some_iff.mp H
    obtain ⟨⟨t356, t357, t358, t359, t360, t363⟩, A160, H⟩ := H
    replace H : (some (t356, t357, t358, t359, t360, t363)) = some (r1, r2, r3, r4, r5, r6) := H
    have A16 := Aside0.mk A160
    clear A160
    simp only [Option.some.injEq, Prod.mk.injEq] at H
    obtain ⟨rfl, rfl, rfl, rfl, rfl, rfl⟩ := H
    obtain ⟨Ao17, co17, eo17⟩ := Kd.R_slice HO_6.out
    subst eo17
    go_wp2_with (first | ((with_reducible refine gate_callee (f := 37) rfl ?_); refine goesL_ (some 37) rfl rfl Try.func37 (by kernel_rfl) rfl #[.pointer (some ⟨g, 0, none⟩), .slice Ao17 x6_1.length co17, .int .i64 2] rfl mp3 ?_; (with_reducible refine (clusterlocksmill_group.calls k1 g s0_0 t348 _ _ x6_1 2 t356 t357 t358 t359 t360 t363 w0 _ ?side1 ?side2 ?side3 ?side4 A16.out).mono ?_); (case side1 => repeat (first | (with_reducible first | exact HI0.out | apply IsS39.alloc | apply IsS39.drewN | apply IsS39.drew | apply IsS39.set_1 | refine IsS39.far ?_ NB0_346.out _) | exact HI0.out)); (case side2 => repeat (first | (with_reducible first | exact HB.out | apply ba | apply bd | apply be | refine below_set ?_ (IsS39.ge HI0.out) | refine below_set ?_ GE346.out) | exact HB.out)); (case side3 => exact Kd.C_foot_own (IsS39.apart (show IsS39 w0 _ g s0_0 t348 from by repeat (first | (with_reducible first | exact HI0.out | apply IsS39.alloc | apply IsS39.drewN | apply IsS39.drew | apply IsS39.set_1 | refine IsS39.far ?_ NB0_346.out _) | exact HI0.out)) (zR HO_6.out) (by decide)) (fun _ h_ => h_.2)); (case side4 => exact (Kd.R_reads' HO_6.out).2.1); rintro e w18 ⟨v361, rfl, ho0, hi, hb, hk⟩; refine ⟨_, rfl, ?_⟩; have n0_ := am (Kd.R_mono (Kd.R_keep (IsS39.apart (show IsS39 w0 _ g s0_0 t348 from by repeat (first | (with_reducible first | exact HI0.out | apply IsS39.alloc | apply IsS39.drewN | apply IsS39.drew | apply IsS39.set_1 | refine IsS39.far ?_ NB0_346.out _) | exact HI0.out)) (zR HO_6.out) (by decide)) hk (fun _ h => h.2)) (fun _ h => h.1)); have n1_ := am (KeepBut.blk hk (g' := gb346) (o := .cells #[.int .i64 0, .string (⟨#[]⟩ : ByteArray), .int .i64 0, .int .i64 0, .slice none 0 0] 28 (0, 0)) (zB BK346.out) NB346_0.out (by simp)); have n2_ := am (Kd.R_lower (Kd.R_newB ho0 (g := gb346) (o := .cells #[.int .i64 0, .string (⟨#[]⟩ : ByteArray), .int .i64 0, .int .i64 0, .slice none 0 0] 28 (0, 0)) (zB BK346.out)) (keep_size (w := w) (g := g) (row := none) (by repeat (first | (with_reducible first | exact HK.out | apply KeepBut.set_ | apply keep_drewN | apply keep_drew | apply keep_alloc | refine keep_far ?_ GW346.out _) | exact HK.out)))); have n3_ := am (KeepBut.trans (by repeat (first | (with_reducible first | exact HK.out | apply KeepBut.set_ | apply keep_drewN | apply keep_drew | apply keep_alloc | refine keep_far ?_ GW346.out _) | exact HK.out)) hk (.inl rfl)); have n4_ := am (hb); have n5_ := am (hi); clear HO_6 BK346 HK HB HI0; have HO_6 := n0_; have BK346 := n1_; have HO362 := n2_; have HK := n3_; have HB := n4_; have HI0 := n5_; clear n0_ n1_ n2_ n3_ n4_ n5_; (try clear hb); (try clear hb2); (try clear hk); (try clear hi); (try clear ho0); have hnb19 := NB346_0.out; have hnc19 := NB0_346.out; obtain ⟨hcz20_0, hcz20_1, hcz20_2, hcz20_3, hcz20_4, hfz20_0, hfz20_1, hfz20_2, hfz20_3, hfz20_4⟩ := b5 BK346.out; obtain ⟨Ao21, co21, eo21⟩ := Kd.R_slice HO362.out; subst eo21) | ((with_reducible refine gate_store (t := 28) (p := 4) rfl ?_); refine store_event (t := 28) (p := 4) (v := ?vo_w22) (w1 := (((((w18.setCell ⟨gb346, 0, none⟩ (.int .i64 t356)).setCell ⟨gb346, 1, none⟩ (.string t357)).setCell ⟨gb346, 2, none⟩ (.int .i64 t358)).setCell ⟨gb346, 3, none⟩ (.int .i64 t359)).setCell ⟨gb346, 4, none⟩ (.slice Ao21 t360.length co21))) ?hg ?ho ?hn ?hr ?_; (case ho => rfl); (case hg => rfl); (case hn => rfl); (case hr => first | (go_simp; done) | (go_simp; rfl)); intro w22 hw; have n0_ : Aside0 (Kd.R k25 25 w22 w.heap.size (fun _ => True) (.slice Ao17 x6_1.length co17) x6_1) := ⟨(by rw [hw]; exact (by exact zR <| Kd.R_mono (Kd.R_far (p := ⟨gb346, 4, none⟩) (Kd.R_far (p := ⟨gb346, 3, none⟩) (Kd.R_far (p := ⟨gb346, 2, none⟩) (Kd.R_far (p := ⟨gb346, 1, none⟩) (Kd.R_far (p := ⟨gb346, 0, none⟩) (Kd.R_types HO_6.out BK346.out (by decide)) (fun _ hk => hk.2) (.int .i64 t356)) (fun _ hk => hk.2) (.string t357)) (fun _ hk => hk.2) (.int .i64 t358)) (fun _ hk => hk.2) (.int .i64 t359)) (fun _ hk => hk.2) (.slice Ao21 t360.length co21)) (fun _ hk => trivial)))⟩; have n1_ : Aside0 (Kd.R k28 28 w22 w.heap.size (fun k_ => k_ ≠ gb346) (.slice Ao21 t360.length co21) t360) := ⟨(by rw [hw]; exact (by exact zR <| Kd.R_mono (Kd.R_far (p := ⟨gb346, 4, none⟩) (Kd.R_far (p := ⟨gb346, 3, none⟩) (Kd.R_far (p := ⟨gb346, 2, none⟩) (Kd.R_far (p := ⟨gb346, 1, none⟩) (Kd.R_far (p := ⟨gb346, 0, none⟩) (Kd.R_mono HO362.out (fun k_ hk => (⟨hk, hk.2⟩ : _ ∧ k_ ≠ gb346))) (fun _ hk => hk.2) (.int .i64 t356)) (fun _ hk => hk.2) (.string t357)) (fun _ hk => hk.2) (.int .i64 t358)) (fun _ hk => hk.2) (.int .i64 t359)) (fun _ hk => hk.2) (.slice Ao21 t360.length co21)) (fun _ hk => hk.1.2)))⟩; have n2_ : Aside0 (w22.heap[gb346]? = some (.cells #[.int .i64 t356, .string t357, .int .i64 t358, .int .i64 t359, .slice Ao21 t360.length co21] 28 (0, 0))) := ⟨(by rw [hw]; exact (by refine blk_put (cs := #[.int .i64 t356, .string t357, .int .i64 t358, .int .i64 t359, .slice none 0 0]) ?_ 4 _ rfl; refine blk_put (cs := #[.int .i64 t356, .string t357, .int .i64 t358, .int .i64 0, .slice none 0 0]) ?_ 3 _ rfl; refine blk_put (cs := #[.int .i64 t356, .string t357, .int .i64 0, .int .i64 0, .slice none 0 0]) ?_ 2 _ rfl; refine blk_put (cs := #[.int .i64 t356, .string (⟨#[]⟩ : ByteArray), .int .i64 0, .int .i64 0, .slice none 0 0]) ?_ 1 _ rfl; refine blk_put (cs := #[.int .i64 0, .string (⟨#[]⟩ : ByteArray), .int .i64 0, .int .i64 0, .slice none 0 0]) ?_ 0 _ rfl; exact zB <| BK346.out))⟩; have n3_ : Aside0 (IsS39 w0 w22 g s0_0 t363) := ⟨(by rw [hw]; exact (by repeat (first | (with_reducible first | exact HI0.out | apply IsS39.alloc | apply IsS39.drewN | apply IsS39.drew | apply IsS39.set_1 | refine IsS39.far ?_ NB0_346.out _) | exact HI0.out)))⟩; have n4_ : Aside0 (KeepBut w w22 g none) := ⟨(by rw [hw]; exact (by repeat (first | (with_reducible first | exact HK.out | apply KeepBut.set_ | apply keep_drewN | apply keep_drew | apply keep_alloc | refine keep_far ?_ GW346.out _) | exact HK.out)))⟩; have n5_ : Aside0 (Below w0.heap.size w0 w22) := ⟨(by rw [hw]; exact (by repeat (first | (with_reducible first | exact HB.out | apply ba | apply bd | apply be | refine below_set ?_ (IsS39.ge HI0.out) | refine below_set ?_ GE346.out) | exact HB.out)))⟩; clear hw HO_6 HO362 BK346 HI0 HK HB; have HO_6 := n0_; have HO362 := n1_; have BK346 := n2_; have HI0 := n3_; have HK := n4_; have HB := n5_; clear n0_ n1_ n2_ n3_ n4_ n5_))
    refine bodyPost_ret (results_cell_row rfl _ _ gb346 28 #[.int .i64 t356, .string t357, .int .i64 t358, .int .i64 t359, .slice Ao21 t360.length co21] (0, 0) _ rfl (zB BK346.out) Try.underlying28 rfl (by kernel_rfl)) rfl ?_
    exact ⟨_, by first | rfl | (simp [errW_none, errW_some] <;> rfl) | (simp [*, errW_none, errW_some] <;> rfl), by exact zR <| Kd.R_mono HO362.out (fun _ hk => trivial), by repeat (first | (with_reducible first | exact HI0.out | apply IsS39.alloc | apply IsS39.drewN | apply IsS39.drew | apply IsS39.set_1 | refine IsS39.far ?_ NB0_346.out _) | exact HI0.out), by repeat (first | (with_reducible first | exact HB.out | apply ba | apply bd | apply be | refine below_set ?_ (IsS39.ge HI0.out) | refine below_set ?_ GE346.out) | exact HB.out), by repeat (first | (with_reducible first | exact HK.out | apply KeepBut.set_ | apply keep_drewN | apply keep_drew | apply keep_alloc | refine keep_far ?_ GW346.out _) | exact HK.out)⟩

/-! ### clusterlocksmill_Catalog: function 21 -/
def clusterlocksmill_Catalog.l0 : Nat → List (S59) → List ByteArray → Int → List Int → Int → Option ((List (S59)) × Int)
 | 0, _, _, _, _, _ => none
 | k + 1, x3, x4, x5, x1000, x1001 => if x5 < (x4.length : Int) then (if 0 ≤ x5 then ((clusterlocksmill_Tape_Next.f x1000 x1001 4).bind fun bt368 => (if x3.length < 3518437208883 then (clusterlocksmill_Catalog.l0 k (x3 ++ [(⟨rdOf ByteArray.empty x4 x5, 1, 1, bt368.1⟩ : S59)]) x4 (wrap64 (x5 + 1)) x1000 bt368.2) else (none))) else (none)) else ((clusterlocksmill_Tape_Next.f x1000 x1001 8).bind fun bt373 => ((clusterlocksmill_Tape_Next.f x1000 bt373.2 4).bind fun bt375 => (if x3.length < 3518437208883 then ((some (x3 ++ [(⟨(⟨#[112]⟩ : ByteArray), 2, wrap64 (1 + bt373.1), bt375.1⟩ : S59)] : List (S59))).bind fun y377 => ((clusterlocksmill_Tape_Next.f x1000 bt375.2 3).bind fun bt380 => ((clusterlocksmill_Tape_Next.f x1000 bt380.2 4).bind fun bt382 => (if y377.length < 3518437208883 then (some ((y377 ++ [(⟨(⟨#[113]⟩ : ByteArray), 2, wrap64 (1 + bt380.1), bt382.1⟩ : S59)]), bt382.2)) else (none))))) else (none))))
def clusterlocksmill_Catalog.f (k : Nat) (s0_0 : List Int) (s0_1 : Int) : Option ((List (S59)) × Int) := clusterlocksmill_Catalog.l0 k ([] : List (S59)) (([(⟨#[97]⟩ : ByteArray), (⟨#[98]⟩ : ByteArray), (⟨#[99]⟩ : ByteArray), (⟨#[100]⟩ : ByteArray)] : List ByteArray)) 0 s0_0 s0_1
theorem clusterlocksmill_Catalog.mono_l : ∀ k, (∀ y0 y1 y2 y3 y4, LeO (clusterlocksmill_Catalog.l0 k y0 y1 y2 y3 y4) (clusterlocksmill_Catalog.l0 (k + 1) y0 y1 y2 y3 y4))
 | 0 => fun _ _ _ _ _ r h => by simp [clusterlocksmill_Catalog.l0] at h
 | k + 1 => by
  have ih0 := clusterlocksmill_Catalog.mono_l k
  ·intro y0 y1 y2 y3 y4
   unfold clusterlocksmill_Catalog.l0
   repeat' first
   | (with_reducible exact ih0 _ _ _ _ _)
   | (with_reducible exact LeO.refl _)
   | (with_reducible exact LeO.none _)
   | (with_reducible refine LeO.ite ?_ ?_)
   | (with_reducible refine LeO.bind ?_ (fun _ => ?_))
   | exact ih0 _ _ _ _ _
   | exact LeO.none _
   | refine LeO.ite ?_ ?_
   | refine LeO.bind ?_ (fun _ => ?_)
theorem clusterlocksmill_Catalog.mono : ∀ a0 a1 k, LeO (clusterlocksmill_Catalog.f k a0 a1) (clusterlocksmill_Catalog.f (k + 1) a0 a1) := by
 intro a0 a1 k
 have ih0 := clusterlocksmill_Catalog.mono_l k
 unfold clusterlocksmill_Catalog.f
 repeat' first
   | (with_reducible exact ih0 _ _ _ _ _)
   | (with_reducible exact LeO.refl _)
   | (with_reducible exact LeO.none _)
   | (with_reducible refine LeO.ite ?_ ?_)
   | (with_reducible refine LeO.bind ?_ (fun _ => ?_))
   | exact ih0 _ _ _ _ _
   | exact LeO.none _
   | refine LeO.ite ?_ ?_
   | refine LeO.bind ?_ (fun _ => ?_)
def clusterlocksmill_Catalog.T6 : Bool × List (List Nat × List Nat) := (true, [([], []), ([], []), ([], []), ([1, 2], [1, 2]), ([3], [3]), ([], []), ([5], [5]), ([4, 6], [4, 6]), ([7], [7]), ([0, 8, 6], [0, 8]), ([9, 9, 0, 1, 2, 3, 4, 5, 6, 7, 8, 9], [0, 9])])
def clusterlocksmill_Catalog.B6 : List Nat := [0, 0, 0, 6, 14, 0, 32, 126, 254, 511, 1023]
theorem clusterlocksmill_Catalog.tab6 : rtab .any (opsOf Try.f21 6) = clusterlocksmill_Catalog.T6 := by kernel_rfl
theorem clusterlocksmill_Catalog.bits6 : waitsOk clusterlocksmill_Catalog.T6.2 clusterlocksmill_Catalog.B6 = true := by kernel_rfl
set_option maxHeartbeats 8000000 in
set_option maxRecDepth 100000 in
theorem clusterlocksmill_Catalog.calls (k : Nat) (g : Nat) (s0_0 : List Int) (s0_1 : Int) (r1 : List (S59)) (r2 : Int) (w0 w : World) (hI : IsS39 w0 w g s0_0 s0_1) (hB : Below w0.heap.size w0 w) (h : clusterlocksmill_Catalog.f k s0_0 s0_1 = some (r1, r2)) :
  Calls Try.prog 21 #[.pointer (some ⟨g, 0, none⟩)] w fun e w' => ∃ v0_ : Value, e = .returned (v0_) ∧ Kd.R k59 59 w' w.heap.size (fun _ => True) v0_ r1 ∧ IsS39 w0 w' g s0_0 r2 ∧ Below w0.heap.size w0 w' ∧ KeepBut w w' g none := by
 have hu59 := Try.underlying59
 have HI0 := Aside0.mk hI
 have HK := am (KeepBut.refl w g none)
 have HL := Aside0.mk hB.size
 clear hI
 have HW0 := Aside0.mk hB.size
 have HB := Aside0.mk hB
 clear hB
 have H : (clusterlocksmill_Catalog.l0 k ([] : List (S59)) (([(⟨#[97]⟩ : ByteArray), (⟨#[98]⟩ : ByteArray), (⟨#[99]⟩ : ByteArray), (⟨#[100]⟩ : ByteArray)] : List ByteArray)) 0 s0_0 s0_1) = some (r1, r2) := h
 clear h
 obtain ⟨y364, hy364⟩ : ∃ y_ : List ByteArray, y_ = (([(⟨#[97]⟩ : ByteArray), (⟨#[98]⟩ : ByteArray), (⟨#[99]⟩ : ByteArray), (⟨#[100]⟩ : ByteArray)] : List ByteArray)) := ⟨_, rfl⟩
 replace H : (clusterlocksmill_Catalog.l0 k ([] : List (S59)) y364 0 s0_0 s0_1) = some (r1, r2) := by first | (rw [hy364]; with_reducible exact H) | (have H2_ := (Option.bind_some _ _).symm.trans H; rw [hy364]; with_reducible exact H2_) | (have H2_ := (Option.bind_some _ _).symm.trans H; with_reducible exact H2_) | with_reducible exact H | (rw [hy364]; exact H) | exact H
 have Ny364 := Aside0.mk hy364
 clear hy364
 have H' := Aside0.mk H
 clear H
 go_enter Try.func21, Try.ntmps21
 go_wp2_with (first | ((with_reducible refine gate_dst (N := 6) rfl ?_); refine Kd.R_lit Kd.string _ 9 ?hg (N := 6) ?hd (xs := ([(⟨#[97]⟩ : ByteArray), (⟨#[98]⟩ : ByteArray), (⟨#[99]⟩ : ByteArray), (⟨#[100]⟩ : ByteArray)] : List ByteArray)) (inner := [.string (⟨#[97]⟩ : ByteArray), .string (⟨#[98]⟩ : ByteArray), .string (⟨#[99]⟩ : ByteArray), .string (⟨#[100]⟩ : ByteArray)]) (ok := fun _ => True) (okp := fun _ => True) ?hr ?hp (fun _ hk => hk) trivial (Below.refl _ _) (Nat.le_refl _) (by simp) ?_; (case hd => rfl); (case hg => rfl); (case hr => first | (go_simp; done) | (go_simp; rfl)); (case hp => exact (Reps.one (show Kd.M Kd.string _ _ _ (⟨#[97]⟩ : ByteArray) [.string (⟨#[97]⟩ : ByteArray)] from rfl) (Reps.one (show Kd.M Kd.string _ _ _ (⟨#[98]⟩ : ByteArray) [.string (⟨#[98]⟩ : ByteArray)] from rfl) (Reps.one (show Kd.M Kd.string _ _ _ (⟨#[99]⟩ : ByteArray) [.string (⟨#[99]⟩ : ByteArray)] from rfl) (Reps.one (show Kd.M Kd.string _ _ _ (⟨#[100]⟩ : ByteArray) [.string (⟨#[100]⟩ : ByteArray)] from rfl) (Reps.none _ _)))))); intro v365 w2 ho3 hb hg_ hnew_; clear hg_ hnew_; (first | rw [← Ny364.out] at ho3 | (simp only [Int.reduceToNat] at ho3; rw [← Ny364.out] at ho3)); have n0_ := am (Kd.R_lower ho3 (keep_size (w := w) (g := g) (row := none) (by repeat (first | (with_reducible first | exact HK.out | apply KeepBut.set_ | apply keep_drewN | apply keep_drew | apply keep_alloc) | exact HK.out)))); have n1_ := am (IsS39.below (by repeat (first | (with_reducible first | exact HI0.out | apply IsS39.alloc | apply IsS39.drewN | apply IsS39.drew | apply IsS39.set_1) | exact HI0.out)) hb); have n2_ := am (KeepBut.trans (by repeat (first | (with_reducible first | exact HK.out | apply KeepBut.set_ | apply keep_drewN | apply keep_drew | apply keep_alloc) | exact HK.out)) (KeepBut.of_below hb g none) (.inl rfl)); have n3_ := am (below_step (by repeat (first | (with_reducible first | exact HB.out | apply ba | apply bd | apply be | refine below_set ?_ (IsS39.ge HI0.out)) | exact HB.out)) hb); clear HI0 HK HB; have HO366 := n0_; have HI0 := n1_; have HK := n2_; have HB := n3_; clear n0_ n1_ n2_ n3_; clear hb ho3))
 go_loopg [3, 5] k (fun kq v3 v5 w' => ∃ (x3_1 : List (S59)) (x5_1 : Int) (x1001_1 : Int), v5 = .int .i64 x5_1 ∧ Aside0 (clusterlocksmill_Catalog.l0 kq x3_1 y364 x5_1 s0_0 x1001_1 = some (r1, r2)) ∧ Aside0 (kq ≤ k) ∧ Aside0 (Kd.R k59 59 w' w.heap.size (fun _ => True) v3 x3_1) ∧ Aside0 (Kd.R Kd.string 9 w' w.heap.size (fun _ => True) v365 y364) ∧ Aside0 (IsS39 w0 w' g s0_0 x1001_1) ∧ Aside0 (KeepBut w w' g none) ∧ Aside0 (Below w0.heap.size w0 w'))
 case atStart => exact ⟨(([] : List (S59))), (0), (s0_1), (by first | rfl | (simp; done) | (simp [*]; done)), H', ⟨Nat.le_refl _⟩, ⟨by first | exact Kd.R_nil _ _ _ _ _ | exact Kd.N_nil _ _ _ _ _ | exact Kd.V_nil _ _ _ _ _ | exact Kd.Q_nil _ _ _ _ _ | exact Kd.S_nil _ _ _ _ _⟩, ⟨by exact zR HO366.out⟩, ⟨by repeat (first | (with_reducible first | exact HI0.out | apply IsS39.alloc | apply IsS39.drewN | apply IsS39.drew | apply IsS39.set_1) | exact HI0.out)⟩, ⟨by repeat (first | (with_reducible first | exact HK.out | apply KeepBut.set_ | apply keep_drewN | apply keep_drew | apply keep_alloc) | exact HK.out)⟩, ⟨by repeat (first | (with_reducible first | exact HB.out | apply ba | apply bd | apply be | refine below_set ?_ (IsS39.ge HI0.out)) | exact HB.out)⟩⟩
 case round =>
  clear H'
  try clear c2
  try clear p2
  obtain ⟨x3_1, x5_1, x1001_1, rfl, HA, HK1, HO_3, HO_4, HI0, HK, HB⟩ := hrel
  cases gk with
  | zero => exact absurd HA.out (by simp [clusterlocksmill_Catalog.l0])
  | succ k1 =>
   have H := HA.out
   clear HA
   simp only [clusterlocksmill_Catalog.l0] at H
   by_cases c4 : x5_1 < (y364.length : Int)
   ·rw [if_pos c4] at H
    have c4b0 : decide (x5_1 < (y364.length : Int)) = true := decide_eq_true c4
    clear c4
    by_cases c5 : 0 ≤ x5_1
    ·rw [if_pos c5] at H
     have c5b0 : decide (0 ≤ x5_1) = true := decide_eq_true c5
     clear c5
     replace H := Option.bind_eq_some_iff.mp H
     obtain ⟨⟨t368, t369⟩, A60, H⟩ := H
     replace H : (if x3_1.length < 3518437208883 then (clusterlocksmill_Catalog.l0 k1 (x3_1 ++ [(⟨rdOf ByteArray.empty y364 x5_1, 1, 1, t368⟩ : S59)]) y364 (wrap64 (x5_1 + 1)) s0_0 t369) else (none)) = some (r1, r2) := H
     have A6 := Aside0.mk A60
     clear A60
     by_cases c7 : x3_1.length < 3518437208883
     ·rw [if_pos c7] at H
      have LMc7 := Aside0.mk c7
      clear c7
      obtain ⟨y370, hy370⟩ : ∃ y_ : List (S59), y_ = (x3_1 ++ [(⟨rdOf ByteArray.empty y364 x5_1, 1, 1, t368⟩ : S59)]) := ⟨_, rfl⟩
      replace H : (clusterlocksmill_Catalog.l0 k1 y370 y364 (wrap64 (x5_1 + 1)) s0_0 t369) = some (r1, r2) := by first | (rw [hy370]; with_reducible exact H) | (have H2_ := (Option.bind_some _ _).symm.trans H; rw [hy370]; with_reducible exact H2_) | (have H2_ := (Option.bind_some _ _).symm.trans H; with_reducible exact H2_) | with_reducible exact H | (rw [hy370]; exact H) | exact H
      have Ny370 := Aside0.mk hy370
      clear hy370
      have H' := Aside0.mk H
      clear H
      obtain ⟨Ao8, co8, eo8⟩ := Kd.R_slice HO_4.out
      subst eo8
      try go_wp2
      have n0_ := am (Kd.R_drew HO_3.out)
      have n1_ := am (Kd.R_drew HO_4.out)
      have n2_ := am (IsS39.drew HI0.out)
      have n3_ := am (keep_drew HK.out)
      have n4_ := am (below_drew1 HB.out)
      clear HO_3 HO_4 HI0 HK HB
      have HO_3 := n0_
      have HO_4 := n1_
      have HI0 := n2_
      have HK := n3_
      have HB := n4_
      clear n0_ n1_ n2_ n3_ n4_
      have p367 : 0 ≤ (x5_1 : Int) := of_decide_eq_true (by first | (with_reducible assumption) | assumption)
      have q367 : x5_1 < (y364.length : Int) := of_decide_eq_true (by first | (with_reducible assumption) | assumption)
      obtain ⟨ad367, e367, hx367_0⟩ := Kd.at_string (Kd.R_reads' HO_4.out).2.2 x5_1 p367 q367
      cases e367
      replace p367 := eq_true p367
      replace q367 := eq_true q367
      refine start_ (n := 11) (S := fun w' => w'.cell? (ad367.add (x5_1).toNat) = some (.string (rdOf ByteArray.empty y364 x5_1))) (ds := [8, 9]) #[false, false, false, false, false, false, false, false, false, false, false] (by kernel_rfl) rfl rfl (hx367_0) (fun hHeld => ?_); refine with_tabW clusterlocksmill_Catalog.tab6 clusterlocksmill_Catalog.bits6 (fun HT_ HW_ => ?_)
      generalize wr.drew = w9 at HO_3 HO_4 HI0 HK HB hx367_0 hHeld ⊢
      refine pure_ (i := 0) (N := some 13) (v := ?_) (a' := ?_) #[true, false, false, false, false, false, false, false, false, false, false] rfl rfl (any_of HT_.out (by kernel_rfl)) (fun _ _ _ h => h) (Or.inl ⟨by rfl, ?_⟩) ?_ ?_
      rotate_left
      ·intro w'
       go_simp
       with_reducible rfl
      rotate_left
      ·simp only [Act.put, List.setIfInBounds_toArray, List.set_cons_zero, List.set_cons_succ, i64_w, i32_w]
       rfl
      refine pure_ (i := 1) (N := some 14) (v := ?_) (a' := ?_) #[true, true, false, false, false, false, false, false, false, false, false] rfl rfl (any_of HT_.out (by kernel_rfl)) (fun _ _ _ h => h) (Or.inl ⟨by rfl, ?_⟩) ?_ ?_
      rotate_left
      ·intro w'
       go_simp
       with_reducible rfl
      rotate_left
      ·simp only [Act.put, List.setIfInBounds_toArray, List.set_cons_zero, List.set_cons_succ, i64_w, i32_w]
       rfl
      refine pure_ (i := 2) (N := some 15) (v := ?_) (a' := ?_) #[true, true, true, false, false, false, false, false, false, false, false] rfl rfl (any_of HT_.out (by kernel_rfl)) (fun _ _ _ h => h) (Or.inl ⟨by rfl, ?_⟩) ?_ ?_
      rotate_left
      ·intro w'
       go_simp
       with_reducible rfl
      rotate_left
      ·simp only [Act.put, List.setIfInBounds_toArray, List.set_cons_zero, List.set_cons_succ, i64_w, i32_w]
       rfl
      refine pure_ (i := 3) (N := some 16) (v := ?_) (a' := ?_) #[true, true, true, true, false, false, false, false, false, false, false] rfl rfl (any_of HT_.out (by kernel_rfl)) (fun _ _ _ h => h) (Or.inl ⟨by rfl, ?_⟩) ?_ ?_
      rotate_left
      ·intro w'
       go_simp
       with_reducible rfl
      rotate_left
      ·simp only [Act.put, List.setIfInBounds_toArray, List.set_cons_zero, List.set_cons_succ, i64_w, i32_w]
       rfl
      refine pure_ (i := 5) (N := some 18) (v := ?_) (a' := ?_) #[true, true, true, true, false, true, false, false, false, false, false] rfl rfl (any_of HT_.out (by kernel_rfl)) (fun _ _ _ h => h) (Or.inl ⟨by rfl, ?_⟩) ?_ ?_
      rotate_left
      ·intro w'
       go_simp
       with_reducible rfl
      rotate_left
      ·simp only [Act.put, List.setIfInBounds_toArray, List.set_cons_zero, List.set_cons_succ, i64_w, i32_w]
       rfl
      refine take_ (i := 4) (N := some 17) (v := ?_) (a' := ?_) #[true, true, true, true, true, true, false, false, false, false, false] rfl rfl (take_ofW HT_.out HW_.out (by kernel_rfl)) (fun _ _ _ h => h) (Or.inl ⟨by rfl, ?_⟩) hHeld ?_ ?_
      rotate_left
      ·intro w' s0
       go_simp
       with_reducible rfl
      rotate_left
      ·simp only [Act.put, List.setIfInBounds_toArray, List.set_cons_zero, List.set_cons_succ, i64_w, i32_w]
       rfl
      refine one_ (i := 6) (N := some 19) #[true, true, true, true, true, true, true, false, false, false, false] rfl rfl (one_of HT_.out (by kernel_rfl)) (by decide) (fun K hK => ?_)
      refine goes_ Try.func35 (by kernel_rfl) rfl #[.pointer (some ⟨g, 0, none⟩), .int .i64 4] (by rfl) rfl rfl (by (try simp only [List.map_toArray, List.map_cons, List.map_nil]); first | done | rfl | (simp only [List.length_drop, List.length_take]; rfl)) ?_
      with_reducible refine (clusterlocksmill_Tape_Next.calls g s0_0 x1001_1 4 t368 t369 w0 _ ?side1 ?side2 A6.out).mono ?_
      (case side1 => repeat (first | (with_reducible first | exact HI0.out | apply IsS39.alloc | apply IsS39.drewN | apply IsS39.drew | apply IsS39.set_1) | exact HI0.out))
      (case side2 => repeat (first | (with_reducible first | exact HB.out | apply ba | apply bd | apply be | refine below_set ?_ (IsS39.ge HI0.out)) | exact HB.out))
      rintro e w10 ⟨rfl, hi, hb, hk⟩
      have HS0_ := keep_cell hk (hHeld) (by first | (rw [add_block]; exact Kd.own_blk (IsS39.own_ne HI0.out HO_4.out (by decide))) | (show (Addr.add _ _).block ≠ _; rw [add_block]; exact Kd.own_blk (IsS39.own_ne HI0.out HO_4.out (by decide))) | exact Kd.own_blk (IsS39.own_ne HI0.out HO_4.out (by decide)))
      refine ⟨_, rfl, ?_⟩
      have n0_ := am (Kd.R_mono (Kd.R_keep (IsS39.apart (show IsS39 w0 _ g s0_0 x1001_1 from by repeat (first | (with_reducible first | exact HI0.out | apply IsS39.alloc | apply IsS39.drewN | apply IsS39.drew | apply IsS39.set_1) | exact HI0.out)) (zR HO_3.out) (by decide)) hk (fun _ h => h.2)) (fun _ h => h.1))
      have n1_ := am (Kd.R_mono (Kd.R_keep (IsS39.apart (show IsS39 w0 _ g s0_0 x1001_1 from by repeat (first | (with_reducible first | exact HI0.out | apply IsS39.alloc | apply IsS39.drewN | apply IsS39.drew | apply IsS39.set_1) | exact HI0.out)) (zR HO_4.out) (by decide)) hk (fun _ h => h.2)) (fun _ h => h.1))
      have n2_ := am (KeepBut.trans (by repeat (first | (with_reducible first | exact HK.out | apply KeepBut.set_ | apply keep_drewN | apply keep_drew | apply keep_alloc) | exact HK.out)) hk (.inl rfl))
      have n3_ := am (hb)
      have n4_ := am (hi)
      clear HO_3 HO_4 HK HB HI0
      have HO_3 := n0_
      have HO_4 := n1_
      have HK := n2_
      have HB := n3_
      have HI0 := n4_
      clear n0_ n1_ n2_ n3_ n4_
      (try clear hb)
      (try clear hb2)
      (try clear hk)
      (try clear hi)
      refine hK.out _ _ (HS0_) (fun hHeld => ?_)
      clear hK K
      refine norm_ (a' := ?_) ?_ ?_
      rotate_left
      ·show Act.put _ (some 19) _ = _
       simp only [Act.put, List.setIfInBounds_toArray, List.set_cons_zero, List.set_cons_succ, i64_w, i32_w]
       rfl
      refine pure_ (i := 7) (N := some 20) (v := ?_) (a' := ?_) #[true, true, true, true, true, true, true, true, false, false, false] rfl rfl (any_of HT_.out (by kernel_rfl)) (fun _ _ _ h => h) (Or.inl ⟨by rfl, ?_⟩) ?_ ?_
      rotate_left
      ·intro w'
       go_simp
       with_reducible rfl
      rotate_left
      ·simp only [Act.put, List.setIfInBounds_toArray, List.set_cons_zero, List.set_cons_succ, i64_w, i32_w]
       rfl
      refine last_ (i := 8) (N := some 21) #[true, true, true, true, true, true, true, true, true, false, false] rfl rfl (one_of HT_.out (by kernel_rfl)) (by decide) (fun K hK => ?_)
      refine value_ (w1 := ?_) (v := ?_) (by rfl) rfl ?_ ?_
      rotate_left 2
      ·go_simp
       constructor
       ·rfl
       ·rfl
      refine hK.out _ _ ?_
      clear hK K
      refine norm_ (a' := ?_) ?_ ?_
      rotate_left
      ·show Act.put _ (some 21) _ = _
       simp only [Act.put, List.setIfInBounds_toArray, List.set_cons_zero, List.set_cons_succ, i64_w, i32_w]
       rfl
      refine last_ (i := 9) (N := some 22) #[true, true, true, true, true, true, true, true, true, true, false] rfl rfl (one_of HT_.out (by kernel_rfl)) (by decide) (fun K hK => ?_)
      refine Kd.R_append_step k59 w.heap.size (by rfl) (.tmp 13) (.tmp 21) 41 59 (.agg #[(.string ⟨#[]⟩), (.int .i64 0), (.int .i64 0), (.int .i64 0)]) 40 rfl Try.underlying41 info59 rfl (by decide) (by omega) u3 x3_1 (⟨rdOf ByteArray.empty y364 x5_1, 1, 1, t368⟩ : S59) [.string (rdOf ByteArray.empty y364 x5_1), .int .i64 1, .int .i64 1, .int .i64 t368] (fun _ => True) (fun _ => False) rfl rfl ?aP (fun _ hk => hk.elim) ?aF ?aO (Below.refl _ _) ?aS ?aL ?_
      (case aP => exact k59_mkM _ _ _ (⟨rdOf ByteArray.empty y364 x5_1, 1, 1, t368⟩ : S59))
      (case aF => exact (fun _ _ => trivial))
      (case aO => exact (zR HO_3.out))
      (case aS => exact (keep_size (w := w) (g := g) (row := none) (by repeat (first | (with_reducible first | exact HK.out | apply KeepBut.set_ | apply keep_drewN | apply keep_drew | apply keep_alloc) | exact HK.out))))
      (case aL => have := LMc7.out; omega)
      intro v371 w11 ho hb hg hat
      rw [← Ny370.out] at ho
      have n0_ := am (Kd.R_over' (zR HO_4.out) (Kd.R_typed (zR HO_3.out)) (by decide) hg)
      have n1_ := am (IsS39.grown (by repeat (first | (with_reducible first | exact HI0.out | apply IsS39.alloc | apply IsS39.drewN | apply IsS39.drew | apply IsS39.set_1) | exact HI0.out)) hg (IsS39.own_ne HI0.out HO_3.out (by decide)))
      have n2_ := am (below_weaken (by repeat (first | (with_reducible first | exact HB.out | apply ba | apply bd | apply be | refine below_set ?_ (IsS39.ge HI0.out)) | exact HB.out)) HL.out hb)
      have n3_ := am (KeepBut.trans (by repeat (first | (with_reducible first | exact HK.out | apply KeepBut.set_ | apply keep_drewN | apply keep_drew | apply keep_alloc) | exact HK.out)) (KeepBut.of_grown hg g) (Kd.R_base2 HO_3.out))
      have n4_ := am (ho)
      clear HO_4 HI0 HB HK HO_3
      have HO_4 := n0_
      have HI0 := n1_
      have HB := n2_
      have HK := n3_
      have HO372 := n4_
      clear n0_ n1_ n2_ n3_ n4_
      clear ho hb hg hat
      refine hK.out _ _ ?_
      clear hK K
      refine norm_ (a' := ?_) ?_ ?_
      rotate_left
      ·show Act.put _ (some 22) _ = _
       simp only [Act.put, List.setIfInBounds_toArray, List.set_cons_zero, List.set_cons_succ, i64_w, i32_w]
       rfl
      refine pure_ (i := 10) (N := some 3) (v := ?_) (a' := ?_) #[true, true, true, true, true, true, true, true, true, true, true] rfl rfl (any_of HT_.out (by kernel_rfl)) (fun _ _ _ h => h) (Or.inl ⟨by rfl, ?_⟩) ?_ ?_
      rotate_left
      ·intro w'
       go_simp
       with_reducible rfl
      rotate_left
      ·simp only [Act.put, List.setIfInBounds_toArray, List.set_cons_zero, List.set_cons_succ, i64_w, i32_w]
       rfl
      refine done_ (done_of HT_.out (by kernel_rfl)) ?_
      try go_wp2
      go_roundg k1
      case measure => have := HK1.out; omega
      case rel => exact ⟨(y370), (wrap64 (x5_1 + 1)), (t369), (by first | rfl | (simp; done) | (simp [*]; done)), H', ⟨by have := HK1.out; omega⟩, ⟨by exact zR HO372.out⟩, ⟨by exact zR HO_4.out⟩, ⟨by repeat (first | (with_reducible first | exact HI0.out | apply IsS39.alloc | apply IsS39.drewN | apply IsS39.drew | apply IsS39.set_1) | exact HI0.out)⟩, ⟨by repeat (first | (with_reducible first | exact HK.out | apply KeepBut.set_ | apply keep_drewN | apply keep_drew | apply keep_alloc) | exact HK.out)⟩, ⟨by repeat (first | (with_reducible first | exact HB.out | apply ba | apply bd | apply be | refine below_set ?_ (IsS39.ge HI0.out)) | exact HB.out)⟩⟩
     ·rw [if_neg c7] at H
      exact absurd H (by simp)
    ·rw [if_neg c5] at H
     exact absurd H (by simp)
   ·rw [if_neg c4] at H
    have c4b0 : decide (x5_1 < (y364.length : Int)) = false := decide_eq_false c4
    clear c4
    replace H := Option.bind_eq_some_iff.mp H
    obtain ⟨⟨t373, t374⟩, A120, H⟩ := H
    replace H : ((clusterlocksmill_Tape_Next.f s0_0 t374 4).bind fun bt375 => (if x3_1.length < 3518437208883 then ((some (x3_1 ++ [(⟨(⟨#[112]⟩ : ByteArray), 2, wrap64 (1 + t373), bt375.1⟩ : S59)] : List (S59))).bind fun y377 => ((clusterlocksmill_Tape_Next.f s0_0 bt375.2 3).bind fun bt380 => ((clusterlocksmill_Tape_Next.f s0_0 bt380.2 4).bind fun bt382 => (if y377.length < 3518437208883 then (some ((y377 ++ [(⟨(⟨#[113]⟩ : ByteArray), 2, wrap64 (1 + bt380.1), bt382.1⟩ : S59)]), bt382.2)) else (none))))) else (none))) = some (r1, r2) := H
    have A12 := Aside0.mk A120
    clear A120
    replace H := Option.bind_eq_some_iff.mp H
    obtain ⟨⟨t375, t376⟩, A130, H⟩ := H
    replace H : (if x3_1.length < 3518437208883 then ((some (x3_1 ++ [(⟨(⟨#[112]⟩ : ByteArray), 2, wrap64 (1 + t373), t375⟩ : S59)] : List (S59))).bind fun y377 => ((clusterlocksmill_Tape_Next.f s0_0 t376 3).bind fun bt380 => ((clusterlocksmill_Tape_Next.f s0_0 bt380.2 4).bind fun bt382 => (if y377.length < 3518437208883 then (some ((y377 ++ [(⟨(⟨#[113]⟩ : ByteArray), 2, wrap64 (1 + bt380.1), bt382.1⟩ : S59)]), bt382.2)) else (none))))) else (none)) = some (r1, r2) := H
    have A13 := Aside0.mk A130
    clear A130
    by_cases c14 : x3_1.length < 3518437208883
    ·rw [if_pos c14] at H
     have LMc14 := Aside0.mk c14
     clear c14
     obtain ⟨y377, hy377⟩ : ∃ y_ : List (S59), y_ = (x3_1 ++ [(⟨(⟨#[112]⟩ : ByteArray), 2, wrap64 (1 + t373), t375⟩ : S59)]) := ⟨_, rfl⟩
     replace H : ((clusterlocksmill_Tape_Next.f s0_0 t376 3).bind fun bt380 => ((clusterlocksmill_Tape_Next.f s0_0 bt380.2 4).bind fun bt382 => (if y377.length < 3518437208883 then (some ((y377 ++ [(⟨(⟨#[113]⟩ : ByteArray), 2, wrap64 (1 + bt380.1), bt382.1⟩ : S59)]), bt382.2)) else (none)))) = some (r1, r2) := by first | (rw [hy377]; with_reducible exact H) | (have H2_ := (Option.bind_some _ _).symm.trans H; rw [hy377]; with_reducible exact H2_) | (have H2_ := (Option.bind_some _ _).symm.trans H; with_reducible exact H2_) | with_reducible exact H | (rw [hy377]; exact H) | exact H
     have Ny377 := Aside0.mk hy377
     clear hy377
     replace H := Option.bind_eq_some_iff.mp H
     obtain ⟨⟨t380, t381⟩, A150, H⟩ := H
     replace H : ((clusterlocksmill_Tape_Next.f s0_0 t381 4).bind fun bt382 => (if y377.length < 3518437208883 then (some ((y377 ++ [(⟨(⟨#[113]⟩ : ByteArray), 2, wrap64 (1 + t380), bt382.1⟩ : S59)]), bt382.2)) else (none))) = some (r1, r2) := H
     have A15 := Aside0.mk A150
     clear A150
     replace H := Option.bind_eq_some_iff.mp H
     obtain ⟨⟨t382, t383⟩, A160, H⟩ := H
     replace H : (if y377.length < 3518437208883 then (some ((y377 ++ [(⟨(⟨#[113]⟩ : ByteArray), 2, wrap64 (1 + t380), t382⟩ : S59)]), t383)) else (none)) = some (r1, r2) := H
     have A16 := Aside0.mk A160
     clear A160
     by_cases c17 : y377.length < 3518437208883
     ·rw [if_pos c17] at H
      have LMc17 := Aside0.mk c17
      clear c17
      obtain ⟨y384, hy384⟩ : ∃ y_ : List (S59), y_ = (y377 ++ [(⟨(⟨#[113]⟩ : ByteArray), 2, wrap64 (1 + t380), t382⟩ : S59)]) := ⟨_, rfl⟩
      replace H : (some (y384, t383)) = some (r1, r2) := by first | (rw [hy384]; with_reducible exact H) | (have H2_ := (Option.bind_some _ _).symm.trans H; rw [hy384]; with_reducible exact H2_) | (have H2_ := (Option.bind_some _ _).symm.trans H; with_reducible exact H2_) | with_reducible exact H | (rw [hy384]; exact H) | exact H
      have Ny384 := Aside0.mk hy384
      clear hy384
      simp only [Option.some.injEq, Prod.mk.injEq] at H
      obtain ⟨rfl, rfl⟩ := H
      obtain ⟨Ao18, co18, eo18⟩ := Kd.R_slice HO_4.out
      subst eo18
      go_wp2_with (first | ((with_reducible refine gate_callee (f := 35) rfl ?_); refine goesL_ (some 25) rfl rfl Try.func35 (by kernel_rfl) rfl #[.pointer (some ⟨g, 0, none⟩), .int .i64 8] rfl mp2 ?_; (with_reducible refine (clusterlocksmill_Tape_Next.calls g s0_0 x1001_1 8 t373 t374 w0 _ ?side1 ?side2 A12.out).mono ?_); (case side1 => repeat (first | (with_reducible first | exact HI0.out | apply IsS39.alloc | apply IsS39.drewN | apply IsS39.drew | apply IsS39.set_1) | exact HI0.out)); (case side2 => repeat (first | (with_reducible first | exact HB.out | apply ba | apply bd | apply be | refine below_set ?_ (IsS39.ge HI0.out)) | exact HB.out)); rintro e w19 ⟨rfl, hi, hb, hk⟩; refine ⟨_, rfl, ?_⟩; have n0_ := am (Kd.R_mono (Kd.R_keep (IsS39.apart (show IsS39 w0 _ g s0_0 x1001_1 from by repeat (first | (with_reducible first | exact HI0.out | apply IsS39.alloc | apply IsS39.drewN | apply IsS39.drew | apply IsS39.set_1) | exact HI0.out)) (zR HO_3.out) (by decide)) hk (fun _ h => h.2)) (fun _ h => h.1)); have n1_ := am (Kd.R_mono (Kd.R_keep (IsS39.apart (show IsS39 w0 _ g s0_0 x1001_1 from by repeat (first | (with_reducible first | exact HI0.out | apply IsS39.alloc | apply IsS39.drewN | apply IsS39.drew | apply IsS39.set_1) | exact HI0.out)) (zR HO_4.out) (by decide)) hk (fun _ h => h.2)) (fun _ h => h.1)); have n2_ := am (KeepBut.trans (by repeat (first | (with_reducible first | exact HK.out | apply KeepBut.set_ | apply keep_drewN | apply keep_drew | apply keep_alloc) | exact HK.out)) hk (.inl rfl)); have n3_ := am (hb); have n4_ := am (hi); clear HO_3 HO_4 HK HB HI0; have HO_3 := n0_; have HO_4 := n1_; have HK := n2_; have HB := n3_; have HI0 := n4_; clear n0_ n1_ n2_ n3_ n4_; (try clear hb); (try clear hb2); (try clear hk); (try clear hi)) | ((with_reducible refine gate_callee (f := 35) rfl ?_); refine goesL_ (some 28) rfl rfl Try.func35 (by kernel_rfl) rfl #[.pointer (some ⟨g, 0, none⟩), .int .i64 4] rfl mp2 ?_; (with_reducible refine (clusterlocksmill_Tape_Next.calls g s0_0 t374 4 t375 t376 w0 _ ?side1 ?side2 A13.out).mono ?_); (case side1 => repeat (first | (with_reducible first | exact HI0.out | apply IsS39.alloc | apply IsS39.drewN | apply IsS39.drew | apply IsS39.set_1) | exact HI0.out)); (case side2 => repeat (first | (with_reducible first | exact HB.out | apply ba | apply bd | apply be | refine below_set ?_ (IsS39.ge HI0.out)) | exact HB.out)); rintro e w20 ⟨rfl, hi, hb, hk⟩; refine ⟨_, rfl, ?_⟩; have n0_ := am (Kd.R_mono (Kd.R_keep (IsS39.apart (show IsS39 w0 _ g s0_0 t374 from by repeat (first | (with_reducible first | exact HI0.out | apply IsS39.alloc | apply IsS39.drewN | apply IsS39.drew | apply IsS39.set_1) | exact HI0.out)) (zR HO_3.out) (by decide)) hk (fun _ h => h.2)) (fun _ h => h.1)); have n1_ := am (Kd.R_mono (Kd.R_keep (IsS39.apart (show IsS39 w0 _ g s0_0 t374 from by repeat (first | (with_reducible first | exact HI0.out | apply IsS39.alloc | apply IsS39.drewN | apply IsS39.drew | apply IsS39.set_1) | exact HI0.out)) (zR HO_4.out) (by decide)) hk (fun _ h => h.2)) (fun _ h => h.1)); have n2_ := am (KeepBut.trans (by repeat (first | (with_reducible first | exact HK.out | apply KeepBut.set_ | apply keep_drewN | apply keep_drew | apply keep_alloc) | exact HK.out)) hk (.inl rfl)); have n3_ := am (hb); have n4_ := am (hi); clear HO_3 HO_4 HK HB HI0; have HO_3 := n0_; have HO_4 := n1_; have HK := n2_; have HB := n3_; have HI0 := n4_; clear n0_ n1_ n2_ n3_ n4_; (try clear hb); (try clear hb2); (try clear hk); (try clear hi)) | ((with_reducible refine gate_builtin (b := .append) (xs := #[.tmp 23, .tmp 30]) rfl ?_); at_builtin; refine Kd.R_append k59 w.heap.size rfl (.tmp 23) (.tmp 30) 41 59 (.agg #[(.string ⟨#[]⟩), (.int .i64 0), (.int .i64 0), (.int .i64 0)]) 40 rfl Try.underlying41 info59 rfl (by decide) (by omega) u3 x3_1 (⟨(⟨#[112]⟩ : ByteArray), 2, wrap64 (1 + t373), t375⟩ : S59) [.string (⟨#[112]⟩ : ByteArray), .int .i64 2, .int .i64 (wrap64 (1 + t373)), .int .i64 t375] (fun _ => True) (fun _ => False) rfl rfl ?aP (fun _ hk => hk.elim) ?aF ?aO (Below.refl _ _) ?aS ?aL ?_; (case aP => exact k59_mkM _ _ _ (⟨(⟨#[112]⟩ : ByteArray), 2, wrap64 (1 + t373), t375⟩ : S59)); (case aF => exact (fun _ _ => trivial)); (case aO => exact (zR HO_3.out)); (case aS => exact (keep_size (w := w) (g := g) (row := none) (by repeat (first | (with_reducible first | exact HK.out | apply KeepBut.set_ | apply keep_drewN | apply keep_drew | apply keep_alloc) | exact HK.out)))); (case aL => have := LMc14.out; omega); intro v378 w21 ho hb hg hat; rw [← Ny377.out] at ho; have n0_ := am (Kd.R_over' (zR HO_4.out) (Kd.R_typed (zR HO_3.out)) (by decide) hg); have n1_ := am (IsS39.grown (by repeat (first | (with_reducible first | exact HI0.out | apply IsS39.alloc | apply IsS39.drewN | apply IsS39.drew | apply IsS39.set_1) | exact HI0.out)) hg (IsS39.own_ne HI0.out HO_3.out (by decide))); have n2_ := am (below_weaken (by repeat (first | (with_reducible first | exact HB.out | apply ba | apply bd | apply be | refine below_set ?_ (IsS39.ge HI0.out)) | exact HB.out)) HL.out hb); have n3_ := am (KeepBut.trans (by repeat (first | (with_reducible first | exact HK.out | apply KeepBut.set_ | apply keep_drewN | apply keep_drew | apply keep_alloc) | exact HK.out)) (KeepBut.of_grown hg g) (Kd.R_base2 HO_3.out)); have n4_ := am (ho); clear HO_4 HI0 HB HK HO_3; have HO_4 := n0_; have HI0 := n1_; have HB := n2_; have HK := n3_; have HO379 := n4_; clear n0_ n1_ n2_ n3_ n4_; clear ho hb hg hat) | ((with_reducible refine gate_callee (f := 35) rfl ?_); refine goesL_ (some 34) rfl rfl Try.func35 (by kernel_rfl) rfl #[.pointer (some ⟨g, 0, none⟩), .int .i64 3] rfl mp2 ?_; (with_reducible refine (clusterlocksmill_Tape_Next.calls g s0_0 t376 3 t380 t381 w0 _ ?side1 ?side2 A15.out).mono ?_); (case side1 => repeat (first | (with_reducible first | exact HI0.out | apply IsS39.alloc | apply IsS39.drewN | apply IsS39.drew | apply IsS39.set_1) | exact HI0.out)); (case side2 => repeat (first | (with_reducible first | exact HB.out | apply ba | apply bd | apply be | refine below_set ?_ (IsS39.ge HI0.out)) | exact HB.out)); rintro e w22 ⟨rfl, hi, hb, hk⟩; refine ⟨_, rfl, ?_⟩; have n0_ := am (Kd.R_mono (Kd.R_keep (IsS39.apart (show IsS39 w0 _ g s0_0 t376 from by repeat (first | (with_reducible first | exact HI0.out | apply IsS39.alloc | apply IsS39.drewN | apply IsS39.drew | apply IsS39.set_1) | exact HI0.out)) (zR HO_4.out) (by decide)) hk (fun _ h => h.2)) (fun _ h => h.1)); have n1_ := am (Kd.R_mono (Kd.R_keep (IsS39.apart (show IsS39 w0 _ g s0_0 t376 from by repeat (first | (with_reducible first | exact HI0.out | apply IsS39.alloc | apply IsS39.drewN | apply IsS39.drew | apply IsS39.set_1) | exact HI0.out)) (zR HO379.out) (by decide)) hk (fun _ h => h.2)) (fun _ h => h.1)); have n2_ := am (KeepBut.trans (by repeat (first | (with_reducible first | exact HK.out | apply KeepBut.set_ | apply keep_drewN | apply keep_drew | apply keep_alloc) | exact HK.out)) hk (.inl rfl)); have n3_ := am (hb); have n4_ := am (hi); clear HO_4 HO379 HK HB HI0; have HO_4 := n0_; have HO379 := n1_; have HK := n2_; have HB := n3_; have HI0 := n4_; clear n0_ n1_ n2_ n3_ n4_; (try clear hb); (try clear hb2); (try clear hk); (try clear hi)) | ((with_reducible refine gate_callee (f := 35) rfl ?_); refine goesL_ (some 37) rfl rfl Try.func35 (by kernel_rfl) rfl #[.pointer (some ⟨g, 0, none⟩), .int .i64 4] rfl mp2 ?_; (with_reducible refine (clusterlocksmill_Tape_Next.calls g s0_0 t381 4 t382 t383 w0 _ ?side1 ?side2 A16.out).mono ?_); (case side1 => repeat (first | (with_reducible first | exact HI0.out | apply IsS39.alloc | apply IsS39.drewN | apply IsS39.drew | apply IsS39.set_1) | exact HI0.out)); (case side2 => repeat (first | (with_reducible first | exact HB.out | apply ba | apply bd | apply be | refine below_set ?_ (IsS39.ge HI0.out)) | exact HB.out)); rintro e w23 ⟨rfl, hi, hb, hk⟩; refine ⟨_, rfl, ?_⟩; have n0_ := am (Kd.R_mono (Kd.R_keep (IsS39.apart (show IsS39 w0 _ g s0_0 t381 from by repeat (first | (with_reducible first | exact HI0.out | apply IsS39.alloc | apply IsS39.drewN | apply IsS39.drew | apply IsS39.set_1) | exact HI0.out)) (zR HO_4.out) (by decide)) hk (fun _ h => h.2)) (fun _ h => h.1)); have n1_ := am (Kd.R_mono (Kd.R_keep (IsS39.apart (show IsS39 w0 _ g s0_0 t381 from by repeat (first | (with_reducible first | exact HI0.out | apply IsS39.alloc | apply IsS39.drewN | apply IsS39.drew | apply IsS39.set_1) | exact HI0.out)) (zR HO379.out) (by decide)) hk (fun _ h => h.2)) (fun _ h => h.1)); have n2_ := am (KeepBut.trans (by repeat (first | (with_reducible first | exact HK.out | apply KeepBut.set_ | apply keep_drewN | apply keep_drew | apply keep_alloc) | exact HK.out)) hk (.inl rfl)); have n3_ := am (hb); have n4_ := am (hi); clear HO_4 HO379 HK HB HI0; have HO_4 := n0_; have HO379 := n1_; have HK := n2_; have HB := n3_; have HI0 := n4_; clear n0_ n1_ n2_ n3_ n4_; (try clear hb); (try clear hb2); (try clear hk); (try clear hi)) | ((with_reducible refine gate_builtin (b := .append) (xs := #[.tmp 32, .tmp 39]) rfl ?_); at_builtin; refine Kd.R_append k59 w.heap.size rfl (.tmp 32) (.tmp 39) 41 59 (.agg #[(.string ⟨#[]⟩), (.int .i64 0), (.int .i64 0), (.int .i64 0)]) 40 rfl Try.underlying41 info59 rfl (by decide) (by omega) v378 y377 (⟨(⟨#[113]⟩ : ByteArray), 2, wrap64 (1 + t380), t382⟩ : S59) [.string (⟨#[113]⟩ : ByteArray), .int .i64 2, .int .i64 (wrap64 (1 + t380)), .int .i64 t382] (fun _ => True) (fun _ => False) rfl rfl ?aP (fun _ hk => hk.elim) ?aF ?aO (Below.refl _ _) ?aS ?aL ?_; (case aP => exact k59_mkM _ _ _ (⟨(⟨#[113]⟩ : ByteArray), 2, wrap64 (1 + t380), t382⟩ : S59)); (case aF => exact (fun _ _ => trivial)); (case aO => exact (zR HO379.out)); (case aS => exact (keep_size (w := w) (g := g) (row := none) (by repeat (first | (with_reducible first | exact HK.out | apply KeepBut.set_ | apply keep_drewN | apply keep_drew | apply keep_alloc) | exact HK.out)))); (case aL => have := LMc17.out; omega); intro v385 w24 ho hb hg hat; rw [← Ny384.out] at ho; have n0_ := am (Kd.R_over' (zR HO_4.out) (Kd.R_typed (zR HO379.out)) (by decide) hg); have n1_ := am (IsS39.grown (by repeat (first | (with_reducible first | exact HI0.out | apply IsS39.alloc | apply IsS39.drewN | apply IsS39.drew | apply IsS39.set_1) | exact HI0.out)) hg (IsS39.own_ne HI0.out HO379.out (by decide))); have n2_ := am (below_weaken (by repeat (first | (with_reducible first | exact HB.out | apply ba | apply bd | apply be | refine below_set ?_ (IsS39.ge HI0.out)) | exact HB.out)) HL.out hb); have n3_ := am (KeepBut.trans (by repeat (first | (with_reducible first | exact HK.out | apply KeepBut.set_ | apply keep_drewN | apply keep_drew | apply keep_alloc) | exact HK.out)) (KeepBut.of_grown hg g) (Kd.R_base2 HO379.out)); have n4_ := am (ho); clear HO_4 HI0 HB HK HO379; have HO_4 := n0_; have HI0 := n1_; have HB := n2_; have HK := n3_; have HO386 := n4_; clear n0_ n1_ n2_ n3_ n4_; clear ho hb hg hat))
      go_ret
      exact ⟨_, by first | rfl | (simp [errW_none, errW_some] <;> rfl) | (simp [*, errW_none, errW_some] <;> rfl), by exact zR HO386.out, by repeat (first | (with_reducible first | exact HI0.out | apply IsS39.alloc | apply IsS39.drewN | apply IsS39.drew | apply IsS39.set_1) | exact HI0.out), by repeat (first | (with_reducible first | exact HB.out | apply ba | apply bd | apply be | refine below_set ?_ (IsS39.ge HI0.out)) | exact HB.out), by repeat (first | (with_reducible first | exact HK.out | apply KeepBut.set_ | apply keep_drewN | apply keep_drew | apply keep_alloc) | exact HK.out)⟩
     ·rw [if_neg c17] at H
      exact absurd H (by simp)
    ·rw [if_neg c14] at H
     exact absurd H (by simp)

end Go.Proofs.Ytefbcebpokoinaa.Y

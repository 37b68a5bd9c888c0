-- Laid by a program of this session's (xprint.py, which runs the kit's print.py with patches of its own). Lean checks it.
import Derived.Test.YtjdicbffpbpenaaY0
import Derived.Test.YtjdicbffpbpenaaY6
namespace Go.Proofs.Ytjdicbffpbpenaa.Y
open Go.RowKit Go.Proofs.YtjdicbffpbpenaaW.PrintWords Go.Proofs.YtjdicbffpbpenaaW.PrintLast Go.Proofs.YtjdicbffpbpenaaW.PrintMore
attribute [local go_sem] max2_int min2_int max_two min_two max_three min_three max_four min_four   -- for this text's walks alone
set_option linter.unusedVariables false
set_option linter.unusedSimpArgs false

/-! ### clusterlocksref26_Read: function 9 -/
def clusterlocksref26_Read.j0 : Nat → List Int → Int → List Int → Int → Bool → Option (List Int × Int × Int)
 | 0, _, _, _, _, _ => none
 | k + 1, x5, x6, x7, x8, x21 => if x21 = true then (some (([] : List Int), 0, 10)) else (if x6 ≥ x8 then (some (x5, x6, 0)) else (some (x7, x8, 0)))
def clusterlocksref26_Read.f (k : Nat) (l0_0 : List Int) (l0_1 : List Int) : Option (List Int × Int × Int) := (clusterlocksref26_whole.f k l0_0).bind fun bt270 => ((clusterlocksref26_whole.f k l0_1).bind fun bt274 => (if bt270.2 = 0 then (clusterlocksref26_Read.j0 k bt270.1 bt270.2 bt274.1 bt274.2 (bt274.2 == 0)) else (clusterlocksref26_Read.j0 k bt270.1 bt270.2 bt274.1 bt274.2 false)))
theorem clusterlocksref26_Read.mono_l : ∀ k, (∀ y0 y1 y2 y3 y4, LeO (clusterlocksref26_Read.j0 k y0 y1 y2 y3 y4) (clusterlocksref26_Read.j0 (k + 1) y0 y1 y2 y3 y4))
 | 0 => fun _ _ _ _ _ r h => by simp [clusterlocksref26_Read.j0] at h
 | k + 1 => by
  have ih0 := clusterlocksref26_Read.mono_l k
  ·intro y0 y1 y2 y3 y4
   unfold clusterlocksref26_Read.j0
   repeat' first
   | (with_reducible exact ih0 _ _ _ _ _)
   | (with_reducible exact clusterlocksref26_whole.mono _ _)
   | (with_reducible exact LeO.refl _)
   | (with_reducible exact LeO.none _)
   | (with_reducible refine LeO.ite ?_ ?_)
   | (with_reducible refine LeO.bind ?_ (fun _ => ?_))
   | exact ih0 _ _ _ _ _
   | exact clusterlocksref26_whole.mono _ _
   | exact LeO.none _
   | refine LeO.ite ?_ ?_
   | refine LeO.bind ?_ (fun _ => ?_)
theorem clusterlocksref26_Read.mono : ∀ a0 a1 k, LeO (clusterlocksref26_Read.f k a0 a1) (clusterlocksref26_Read.f (k + 1) a0 a1) := by
 intro a0 a1 k
 have ih0 := clusterlocksref26_Read.mono_l k
 unfold clusterlocksref26_Read.f
 repeat' first
   | (with_reducible exact ih0 _ _ _ _ _)
   | (with_reducible exact clusterlocksref26_whole.mono _ _)
   | (with_reducible exact LeO.refl _)
   | (with_reducible exact LeO.none _)
   | (with_reducible refine LeO.ite ?_ ?_)
   | (with_reducible refine LeO.bind ?_ (fun _ => ?_))
   | exact ih0 _ _ _ _ _
   | exact clusterlocksref26_whole.mono _ _
   | exact LeO.none _
   | refine LeO.ite ?_ ?_
   | refine LeO.bind ?_ (fun _ => ?_)
set_option maxHeartbeats 8000000 in
set_option maxRecDepth 100000 in
theorem clusterlocksref26_Read.calls (k : Nat) (A0_0 : Option Addr) (c0_0 : Nat) (l0_0 : List Int) (A0_1 : Option Addr) (c0_1 : Nat) (l0_1 : List Int) (r1 : List Int) (r2 : Int) (r3 : Int) (w : World) (hr0_0 : Kd.C (Kd.int .u8) w A0_0 l0_0.length l0_0) (hc0_0 : l0_0.length ≤ c0_0) (hr0_1 : Kd.C (Kd.int .u8) w A0_1 l0_1.length l0_1) (hc0_1 : l0_1.length ≤ c0_1) (h : clusterlocksref26_Read.f k l0_0 l0_1 = some (r1, r2, r3)) :
  Calls Try.prog 9 #[.agg #[.slice A0_0 l0_0.length c0_0, .slice A0_1 l0_1.length c0_1]] w fun e w' => ∃ v0_ : Value, e = .returned (.tuple #[v0_, .int .i64 r2, .int .i64 r3]) ∧ Kd.R (Kd.int .u8) 5 w' w.heap.size (fun _ => True) v0_ r1 ∧ Below w.heap.size w w' := by
 have hu24 := Try.underlying24
 have HR0_0 := Aside0.mk hr0_0
 have HC0_0 := Aside0.mk hc0_0
 clear hr0_0 hc0_0
 have HR0_1 := Aside0.mk hr0_1
 have HC0_1 := Aside0.mk hc0_1
 clear hr0_1 hc0_1
 have HB := am (Below.refl w.heap.size w)
 have H : ((clusterlocksref26_whole.f k l0_0).bind fun bt270 => ((clusterlocksref26_whole.f k l0_1).bind fun bt274 => (if bt270.2 = 0 then (clusterlocksref26_Read.j0 k bt270.1 bt270.2 bt274.1 bt274.2 (bt274.2 == 0)) else (clusterlocksref26_Read.j0 k bt270.1 bt270.2 bt274.1 bt274.2 false)))) = some (r1, r2, r3) := h
 clear h
 replace H := Option.bind_eq_some_iff.mp H
 obtain ⟨⟨t270, t271⟩, A20, H⟩ := H
 replace H : ((clusterlocksref26_whole.f k l0_1).bind fun bt274 => (if t271 = 0 then (clusterlocksref26_Read.j0 k t270 t271 bt274.1 bt274.2 (bt274.2 == 0)) else (clusterlocksref26_Read.j0 k t270 t271 bt274.1 bt274.2 false))) = some (r1, r2, r3) := H
 have A2 := Aside0.mk A20
 clear A20
 replace H := Option.bind_eq_some_iff.mp H
 obtain ⟨⟨t274, t275⟩, A30, H⟩ := H
 replace H : (if t271 = 0 then (clusterlocksref26_Read.j0 k t270 t271 t274 t275 (t275 == 0)) else (clusterlocksref26_Read.j0 k t270 t271 t274 t275 false)) = some (r1, r2, r3) := H
 have A3 := Aside0.mk A30
 clear A30
 have HC4 := Aside0.mk H
 clear H
 go_enter Try.func9, Try.ntmps9
 go_upto_region 3 with (first | ((with_reducible refine gate_dst (N := 1) rfl ?_); refine box_event ?hg (N := 1) ?hd (cs := #[.slice A0_0 l0_0.length c0_0, .slice A0_1 l0_1.length c0_1]) (t := 24) ?hr ?_; (case hd => rfl); (case hg => rfl); (case hr => first | (go_simp; done) | (go_simp; rfl)); intro gb269 hg w5 hbox hb; have n0_ := am (below_step (zL HB.out) hb); have n1_ := am (hbox); have n2_ := am (zS hg HB.out); have n3_ := am (zS hg HB.out); clear HB; have HB := n0_; have BK269 := n1_; have GW269 := n2_; have GE269 := n3_; clear n0_ n1_ n2_ n3_; clear hb hbox hg; have hcz6_0 : w5.cell? ⟨gb269, 0, none⟩ = some (.slice A0_0 l0_0.length c0_0) := (blk_cell BK269.out 0).trans rfl; have hcz6_1 : w5.cell? ⟨gb269, 1, none⟩ = some (.slice A0_1 l0_1.length c0_1) := (blk_cell BK269.out 1).trans rfl; have hfz6_0 := blk_frozen BK269.out 0; have hfz6_1 := blk_frozen BK269.out 1) | ((with_reducible refine gate_callee (f := 22) rfl ?_); refine goesL_ (some 12) rfl rfl Try.func22 (by kernel_rfl) rfl #[.slice A0_0 l0_0.length c0_0] rfl (by (try simp only [List.map_toArray, List.map_cons, List.map_nil]); first | done | rfl | (simp only [List.length_drop, List.length_take]; rfl)) ?_; (with_reducible refine (clusterlocksref26_whole.calls k _ _ l0_0 t270 t271 _ ?side1 ?side2 A2.out).mono ?_); (case side1 => exact zC (Kd.C_below HR0_0.out HB.out)); (case side2 => exact HC0_0.out); rintro e w7 ⟨v272, rfl, ho0, hb⟩; refine ⟨_, rfl, ?_⟩; have n0_ := am (Kd.R_lower ho0 (below_size (zL HB.out))); have n1_ := am (blk_below (zB BK269.out) hb); have n2_ := am (below_step (zL HB.out) hb); clear BK269 HB; have HO273 := n0_; have BK269 := n1_; have HB := n2_; clear n0_ n1_ n2_; (try clear hb); (try clear hb2); (try clear hk); (try clear hi); (try clear ho0); have hcz8_0 : w7.cell? ⟨gb269, 0, none⟩ = some (.slice A0_0 l0_0.length c0_0) := (blk_cell BK269.out 0).trans rfl; have hcz8_1 : w7.cell? ⟨gb269, 1, none⟩ = some (.slice A0_1 l0_1.length c0_1) := (blk_cell BK269.out 1).trans rfl; have hfz8_0 := blk_frozen BK269.out 0; have hfz8_1 := blk_frozen BK269.out 1) | ((with_reducible refine gate_callee (f := 22) rfl ?_); refine goesL_ (some 18) rfl rfl Try.func22 (by kernel_rfl) rfl #[.slice A0_1 l0_1.length c0_1] rfl (by (try simp only [List.map_toArray, List.map_cons, List.map_nil]); first | done | rfl | (simp only [List.length_drop, List.length_take]; rfl)) ?_; (with_reducible refine (clusterlocksref26_whole.calls k _ _ l0_1 t274 t275 _ ?side1 ?side2 A3.out).mono ?_); (case side1 => exact zC (Kd.C_below HR0_1.out HB.out)); (case side2 => exact HC0_1.out); rintro e w9 ⟨v276, rfl, ho0, hb⟩; refine ⟨_, rfl, ?_⟩; have n0_ := am (Kd.R_elder' (zR HO273.out) (Kd.R_base ho0) hb); have n1_ := am (Kd.R_lower (Kd.R_new' ho0 (Kd.R_lt (zR HO273.out))) (below_size (zL HB.out))); have n2_ := am (blk_below (zB BK269.out) hb); have n3_ := am (below_step (zL HB.out) hb); clear HO273 BK269 HB; have HO273 := n0_; have HO277 := n1_; have BK269 := n2_; have HB := n3_; clear n0_ n1_ n2_ n3_; (try clear hb); (try clear hb2); (try clear hk); (try clear hi); (try clear ho0)))
 (try simp only [Act.put, List.setIfInBounds_toArray, List.set_cons_zero, List.set_cons_succ])
 go_cut [21] (fun v21 wc => ∃ (kq : Nat) (x21_3 : Bool), v21 = .bool x21_3 ∧ Aside0 (clusterlocksref26_Read.j0 kq t270 t271 t274 t275 x21_3 = some (r1, r2, r3)) ∧ Aside0 (kq ≤ k) ∧ Aside0 (Kd.R (Kd.int .u8) 5 wc w.heap.size (fun k_ => some k_ ≠ (v276 : Value).ownBlock) v272 t270) ∧ Aside0 (Kd.R (Kd.int .u8) 5 wc w.heap.size (fun k_ => some k_ ≠ (v272 : Value).ownBlock) v276 t274) ∧ Aside0 (wc.heap[gb269]? = some (.cells #[(.slice A0_0 l0_0.length c0_0), (.slice A0_1 l0_1.length c0_1)] 24 (0, 0))) ∧ Aside0 (Below w.heap.size w wc))
 case first =>
  have H := HC4.out
  clear HC4
  by_cases c10 : t271 = 0
  ·rw [if_pos c10] at H
   have c10b0 : (t271 == 0) = true := beq_iff_eq.mpr c10
   have c10b1 : (t271 != 0) = false := bne_eq_false_iff_eq.mpr c10
   clear c10
   (first | rw [c10b0] | (simp only [i64_w, i32_w]; rw [c10b0]) | skip)
   have H' := Aside0.mk H
   clear H
   go_wp2
   go_meet
   case rel => exact ⟨_, ((t275 == 0)), (by first | rfl | (simp; done) | (simp [*]; done)), H', ⟨by first | omega | exact Nat.le_refl _⟩, ⟨by exact zR <| Kd.R_mono HO273.out (fun _ hk => hk.2)⟩, ⟨by exact zR <| Kd.R_mono HO277.out (fun _ hk => hk.2)⟩, ⟨by exact zB <| BK269.out⟩, ⟨by repeat (first | (with_reducible first | exact HB.out | apply ba | apply bd | apply be | refine below_set ?_ GE269.out) | exact HB.out)⟩⟩
  ·rw [if_neg c10] at H
   have c10b0 : (t271 == 0) = false := beq_eq_false_iff_ne.mpr c10
   have c10b1 : (t271 != 0) = true := bne_iff_ne.mpr c10
   (first | rw [c10b0] | (simp only [i64_w, i32_w]; rw [c10b0]) | skip)
   have H' := Aside0.mk H
   clear H
   go_wp2
   go_meet
   case rel => exact ⟨_, (false), (by first | rfl | (simp; done) | (simp [*]; done)), H', ⟨by first | omega | exact Nat.le_refl _⟩, ⟨by exact zR <| Kd.R_mono HO273.out (fun _ hk => hk.2)⟩, ⟨by exact zR <| Kd.R_mono HO277.out (fun _ hk => hk.2)⟩, ⟨by exact zB <| BK269.out⟩, ⟨by repeat (first | (with_reducible first | exact HB.out | apply ba | apply bd | apply be | refine below_set ?_ GE269.out) | exact HB.out)⟩⟩
 case rest =>
  clear HC4
  try clear c1
  try clear c2
  try clear p2
  try clear c9
  try clear c10
  try clear c10b0
  try clear c10b1
  try clear hcz6_0
  try clear hcz6_1
  try clear hcz8_0
  try clear hcz8_1
  try clear hfz6_0
  try clear hfz6_1
  try clear hfz8_0
  try clear hfz8_1
  obtain ⟨kq, x21_3, rfl, HA, HJ3, HO_5, HO_7, BK269, HB⟩ := hcut
  cases kq with
  | zero => exact absurd HA.out (by simp [clusterlocksref26_Read.j0])
  | succ kj3 =>
   have H := HA.out
   clear HA
   simp only [clusterlocksref26_Read.j0] at H
   by_cases c11 : x21_3 = true
   ·subst c11
    have H1 : (some (([] : List Int), 0, 10)) = some (r1, r2, r3) := by rw [if_pos rfl] at H; exact H
    clear H
    have H := H1
    clear H1
    simp only [Option.some.injEq, Prod.mk.injEq] at H
    obtain ⟨rfl, rfl, rfl⟩ := H
    go_wp2
    go_ret3
    exact ⟨_, by first | rfl | (simp [errW_none, errW_some] <;> rfl) | (simp [*, errW_none, errW_some] <;> rfl), by first | exact Kd.R_nil _ _ _ _ _ | exact Kd.N_nil _ _ _ _ _ | exact Kd.V_nil _ _ _ _ _ | exact Kd.Q_nil _ _ _ _ _ | exact Kd.S_nil _ _ _ _ _, by repeat (first | (with_reducible first | exact HB.out | apply ba | apply bd | apply be | refine below_set ?_ GE269.out) | exact HB.out)⟩
   ·replace c11 := Bool.eq_false_iff.mpr c11
    subst c11
    have H1 : (if t271 ≥ t275 then (some (t270, t271, 0)) else (some (t274, t275, 0))) = some (r1, r2, r3) := by rw [if_neg (show ¬ (false = true) by decide)] at H; exact H
    clear H
    have H := H1
    clear H1
    by_cases c12 : t271 ≥ t275
    ·rw [if_pos c12] at H
     have c12b0 : decide (t275 ≤ t271) = true := decide_eq_true c12
     clear c12
     simp only [Option.some.injEq, Prod.mk.injEq] at H
     obtain ⟨rfl, rfl, rfl⟩ := H
     go_wp2
     go_ret3
     exact ⟨_, by first | rfl | (simp [errW_none, errW_some] <;> rfl) | (simp [*, errW_none, errW_some] <;> rfl), by exact zR <| Kd.R_mono HO_5.out (fun _ hk => trivial), by repeat (first | (with_reducible first | exact HB.out | apply ba | apply bd | apply be | refine below_set ?_ GE269.out) | exact HB.out)⟩
    ·rw [if_neg c12] at H
     have c12b0 : decide (t275 ≤ t271) = false := decide_eq_false c12
     clear c12
     simp only [Option.some.injEq, Prod.mk.injEq] at H
     obtain ⟨rfl, rfl, rfl⟩ := H
     go_wp2
     go_ret3
     exact ⟨_, by first | rfl | (simp [errW_none, errW_some] <;> rfl) | (simp [*, errW_none, errW_some] <;> rfl), by exact zR <| Kd.R_mono HO_7.out (fun _ hk => trivial), by repeat (first | (with_reducible first | exact HB.out | apply ba | apply bd | apply be | refine below_set ?_ GE269.out) | exact HB.out)⟩

/-! ### clusterlocksref01_PutUint: function 34 -/
def clusterlocksref01_PutUint.l0 : Nat → Int → List Int → Option (List Int)
 | 0, _, _ => none
 | k + 1, x1, x5 => if x1 ≥ 128 then (if x5.length < 140737488355328 then (clusterlocksref01_PutUint.l0 k (x1 / 128) (x5 ++ [Go.bits .or .u8 ((Go.bits .and .u64 x1 127) % 256) 128])) else (none)) else (if x5.length < 140737488355328 then (some (x5 ++ [(x1) % 256])) else (none))
def clusterlocksref01_PutUint.f (k : Nat) (l0 : List Int) (a1 : Int) : Option (List Int) := (some (([] : List Int) : List Int)).bind fun y278 => (if y278.length + l0.length < 140737488355328 then (clusterlocksref01_PutUint.l0 k a1 (y278 ++ l0)) else (none))
theorem clusterlocksref01_PutUint.mono_l : ∀ k, (∀ y0 y1, LeO (clusterlocksref01_PutUint.l0 k y0 y1) (clusterlocksref01_PutUint.l0 (k + 1) y0 y1))
 | 0 => fun _ _ r h => by simp [clusterlocksref01_PutUint.l0] at h
 | k + 1 => by
  have ih0 := clusterlocksref01_PutUint.mono_l k
  ·intro y0 y1
   unfold clusterlocksref01_PutUint.l0
   repeat' first
   | (with_reducible exact ih0 _ _)
   | (with_reducible exact LeO.refl _)
   | (with_reducible exact LeO.none _)
   | (with_reducible refine LeO.ite ?_ ?_)
   | (with_reducible refine LeO.bind ?_ (fun _ => ?_))
   | exact ih0 _ _
   | exact LeO.none _
   | refine LeO.ite ?_ ?_
   | refine LeO.bind ?_ (fun _ => ?_)
theorem clusterlocksref01_PutUint.mono : ∀ a0 a1 k, LeO (clusterlocksref01_PutUint.f k a0 a1) (clusterlocksref01_PutUint.f (k + 1) a0 a1) := by
 intro a0 a1 k
 have ih0 := clusterlocksref01_PutUint.mono_l k
 unfold clusterlocksref01_PutUint.f
 repeat' first
   | (with_reducible exact ih0 _ _)
   | (with_reducible exact LeO.refl _)
   | (with_reducible exact LeO.none _)
   | (with_reducible refine LeO.ite ?_ ?_)
   | (with_reducible refine LeO.bind ?_ (fun _ => ?_))
   | exact ih0 _ _
   | exact LeO.none _
   | refine LeO.ite ?_ ?_
   | refine LeO.bind ?_ (fun _ => ?_)
set_option maxHeartbeats 8000000 in
set_option maxRecDepth 100000 in
theorem clusterlocksref01_PutUint.calls (k : Nat) (A0 : Option Addr) (c0 : Nat) (l0 : List Int) (a1 : Int) (r : List Int) (w : World) (hr0 : Kd.C (Kd.int .u8) w A0 l0.length l0) (hc0 : l0.length ≤ c0) (h : clusterlocksref01_PutUint.f k l0 a1 = some r) :
  Calls Try.prog 34 #[.slice A0 l0.length c0, .int .u64 a1] w fun e w' => ∃ v0_ : Value, e = .returned (v0_) ∧ Kd.R (Kd.int .u8) 5 w' w.heap.size (fun _ => True) v0_ r ∧ Below w.heap.size w w' := by
 have HR0 := Aside0.mk hr0
 have HC0 := Aside0.mk hc0
 clear hr0 hc0
 have HB := am (Below.refl w.heap.size w)
 have H : ((some (([] : List Int) : List Int)).bind fun y278 => (if y278.length + l0.length < 140737488355328 then (clusterlocksref01_PutUint.l0 k a1 (y278 ++ l0)) else (none))) = some r := h
 clear h
 obtain ⟨y278, hy278⟩ : ∃ y_ : List Int, y_ = (([] : List Int)) := ⟨_, rfl⟩
 replace H : (if y278.length + l0.length < 140737488355328 then (clusterlocksref01_PutUint.l0 k a1 (y278 ++ l0)) else (none)) = some r := by first | (rw [hy278]; with_reducible exact H) | (have H2_ := (Option.bind_some _ _).symm.trans H; rw [hy278]; with_reducible exact H2_) | (have H2_ := (Option.bind_some _ _).symm.trans H; with_reducible exact H2_) | with_reducible exact H | (rw [hy278]; exact H) | exact H
 have Ny278 := Aside0.mk hy278
 clear hy278
 by_cases c3 : y278.length + l0.length < 140737488355328
 ·rw [if_pos c3] at H
  have LMc3 := Aside0.mk c3
  clear c3
  obtain ⟨y281, hy281⟩ : ∃ y_ : List Int, y_ = (y278 ++ l0) := ⟨_, rfl⟩
  replace H : (clusterlocksref01_PutUint.l0 k a1 y281) = some r := by first | (rw [hy281]; with_reducible exact H) | (have H2_ := (Option.bind_some _ _).symm.trans H; rw [hy281]; with_reducible exact H2_) | (have H2_ := (Option.bind_some _ _).symm.trans H; with_reducible exact H2_) | with_reducible exact H | (rw [hy281]; exact H) | exact H
  have Ny281 := Aside0.mk hy281
  clear hy281
  have H' := Aside0.mk H
  clear H
  go_enter Try.func34, Try.ntmps34
  go_wp2_with (first | ((with_reducible refine gate_dst (N := 6) rfl ?_); refine Kd.R_lit (Kd.int .u8) _ 5 ?hg (N := 6) ?hd (xs := ([] : List Int)) (inner := []) (ok := fun _ => True) (okp := fun _ => True) ?hr ?hp (fun _ hk => hk) trivial (Below.refl _ _) (Nat.le_refl _) (by simp) ?_; (case hd => rfl); (case hg => rfl); (case hr => first | (go_simp; done) | (go_simp; rfl)); (case hp => exact (Reps.none _ _)); intro v279 w4 ho5 hb hg_ hnew_; clear hg_ hnew_; (first | rw [← Ny278.out] at ho5 | (simp only [Int.reduceToNat] at ho5; rw [← Ny278.out] at ho5)); have n0_ := am (Kd.R_lower ho5 (below_size (zL HB.out))); have n1_ := am (below_step (zL HB.out) hb); clear HB; have HO280 := n0_; have HB := n1_; clear n0_ n1_; clear hb ho5) | ((with_reducible refine gate_builtin (b := .append) (xs := #[.tmp 6, .tmp 7]) rfl ?_); at_builtin; refine Kd.R_append_rows (Kd.int .u8) (w0 := w) w.heap.size rfl (.tmp 6) (.tmp 7) 22 5 (.int .u8 0) 1 rfl Try.underlying22 info5 rfl (by decide) (by omega) v279 y278 l0 _ _ _ (fun _ => True) (fun _ => False) rfl rfl ?aO ?aR (fun _ _ h => h) (fun _ h => h.elim) ?aF ?aB ?aS ?aL ?_; (case aR => exact zC (Kd.C_below HR0.out HB.out)); (case aB => exact (zL HB.out)); (case aF => exact (fun _ _ => trivial)); (case aO => exact (zR HO280.out)); (case aS => exact (below_size (zL HB.out))); (case aL => have := LMc3.out; omega); intro v282 w6 ho hb hg hat; rw [← Ny281.out] at ho; have n0_ := am (hb); have n1_ := am (ho); clear HB HO280; have HB := n0_; have HO283 := n1_; clear n0_ n1_; clear ho hb hg hat))
  go_loopg [1, 5] k (fun kq v1 v5 w' => ∃ (x1_1 : Int) (x5_1 : List Int), v1 = .int .u64 x1_1 ∧ Aside0 (clusterlocksref01_PutUint.l0 kq x1_1 x5_1 = some r) ∧ Aside0 (kq ≤ k) ∧ Aside0 (Kd.R (Kd.int .u8) 5 w' w.heap.size (fun _ => True) v5 x5_1) ∧ Aside0 (Below w.heap.size w w'))
  case atStart => exact ⟨(a1), (y281), (by first | rfl | (simp; done) | (simp [*]; done)), H', ⟨Nat.le_refl _⟩, ⟨by exact zR HO283.out⟩, ⟨zL HB.out⟩⟩
  case round =>
   clear H'
   try clear p2
   try clear c3
   obtain ⟨x1_1, x5_1, rfl, HA, HK1, HO_5, HB⟩ := hrel
   cases gk with
   | zero => exact absurd HA.out (by simp [clusterlocksref01_PutUint.l0])
   | succ k1 =>
    have H := HA.out
    clear HA
    simp only [clusterlocksref01_PutUint.l0] at H
    by_cases c7 : x1_1 ≥ 128
    ·rw [if_pos c7] at H
     have c7b0 : decide (128 ≤ x1_1) = true := decide_eq_true c7
     clear c7
     by_cases c8 : x5_1.length < 140737488355328
     ·rw [if_pos c8] at H
      have LMc8 := Aside0.mk c8
      clear c8
      obtain ⟨y284, hy284⟩ : ∃ y_ : List Int, y_ = (x5_1 ++ [Go.bits .or .u8 ((Go.bits .and .u64 x1_1 127) % 256) 128]) := ⟨_, rfl⟩
      replace H : (clusterlocksref01_PutUint.l0 k1 (x1_1 / 128) y284) = some r := by first | (rw [hy284]; with_reducible exact H) | (have H2_ := (Option.bind_some _ _).symm.trans H; rw [hy284]; with_reducible exact H2_) | (have H2_ := (Option.bind_some _ _).symm.trans H; with_reducible exact H2_) | with_reducible exact H | (rw [hy284]; exact H) | exact H
      have Ny284 := Aside0.mk hy284
      clear hy284
      have H' := Aside0.mk H
      clear H
      go_wp2_with (first | ((with_reducible refine gate_builtin (b := .append) (xs := #[.tmp 11, .tmp 16]) rfl ?_); at_builtin; refine Kd.R_append (Kd.int .u8) (w0 := w) w.heap.size rfl (.tmp 11) (.tmp 16) 22 5 (.int .u8 0) 1 rfl Try.underlying22 info5 rfl (by decide) (by omega) u5 x5_1 (Go.bits .or .u8 ((Go.bits .and .u64 x1_1 127) % 256) 128) [.int .u8 (Go.bits .or .u8 ((Go.bits .and .u64 x1_1 127) % 256) 128)] (fun _ => True) (fun _ => False) rfl rfl ?aP (fun _ hk => hk.elim) ?aF ?aO ?aB ?aS ?aL ?_; (case aP => exact rfl); (case aB => exact (zL HB.out)); (case aF => exact (fun _ _ => trivial)); (case aO => exact (zR HO_5.out)); (case aS => exact (below_size (zL HB.out))); (case aL => have := LMc8.out; omega); intro v285 w9 ho hb hg hat; rw [← Ny284.out] at ho; have n0_ := am (hb); have n1_ := am (ho); clear HB HO_5; have HB := n0_; have HO286 := n1_; clear n0_ n1_; clear ho hb hg hat))
      go_roundg k1
      case measure => have := HK1.out; omega
      case rel => exact ⟨(x1_1 / 128), (y284), (by first | rfl | (simp; done) | (simp [*]; done)), H', ⟨by have := HK1.out; omega⟩, ⟨by exact zR HO286.out⟩, ⟨zL HB.out⟩⟩
     ·rw [if_neg c8] at H
      exact absurd H (by simp)
    ·rw [if_neg c7] at H
     have c7b0 : decide (128 ≤ x1_1) = false := decide_eq_false c7
     clear c7
     by_cases c10 : x5_1.length < 140737488355328
     ·rw [if_pos c10] at H
      have LMc10 := Aside0.mk c10
      clear c10
      obtain ⟨y287, hy287⟩ : ∃ y_ : List Int, y_ = (x5_1 ++ [(x1_1) % 256]) := ⟨_, rfl⟩
      replace H : (some y287) = some r := by first | (rw [hy287]; with_reducible exact H) | (have H2_ := (Option.bind_some _ _).symm.trans H; rw [hy287]; with_reducible exact H2_) | (have H2_ := (Option.bind_some _ _).symm.trans H; with_reducible exact H2_) | with_reducible exact H | (rw [hy287]; exact H) | exact H
      have Ny287 := Aside0.mk hy287
      clear hy287
      obtain rfl := Option.some.inj H
      go_wp2_with (first | ((with_reducible refine gate_builtin (b := .append) (xs := #[.tmp 20, .tmp 23]) rfl ?_); at_builtin; refine Kd.R_append (Kd.int .u8) (w0 := w) w.heap.size rfl (.tmp 20) (.tmp 23) 22 5 (.int .u8 0) 1 rfl Try.underlying22 info5 rfl (by decide) (by omega) u5 x5_1 ((x1_1) % 256) [.int .u8 ((x1_1) % 256)] (fun _ => True) (fun _ => False) rfl rfl ?aP (fun _ hk => hk.elim) ?aF ?aO ?aB ?aS ?aL ?_; (case aP => exact rfl); (case aB => exact (zL HB.out)); (case aF => exact (fun _ _ => trivial)); (case aO => exact (zR HO_5.out)); (case aS => exact (below_size (zL HB.out))); (case aL => have := LMc10.out; omega); intro v288 w11 ho hb hg hat; rw [← Ny287.out] at ho; have n0_ := am (hb); have n1_ := am (ho); clear HB HO_5; have HB := n0_; have HO289 := n1_; clear n0_ n1_; clear ho hb hg hat))
      go_ret
      exact ⟨_, by first | rfl | (simp [errW_none, errW_some] <;> rfl) | (simp [*, errW_none, errW_some] <;> rfl), by exact zR HO289.out, zL HB.out⟩
     ·rw [if_neg c10] at H
      exact absurd H (by simp)
 ·rw [if_neg c3] at H
  exact absurd H (by simp)

/-! ### clusterlocksref01_Frame: function 33 -/
def clusterlocksref01_Frame.f (k : Nat) (l0 : List Int) : Option (List Int × Int) := if (l0.length : Int) > 4096 then (some (([] : List Int), 3)) else ((clusterlocksref01_PutUint.f k ([] : List Int) (IntKind.u64.wrap ((l0.length : Int)))).bind fun t290 => (if t290.length + l0.length < 140737488355328 then ((some (t290 ++ l0 : List Int)).bind fun y293 => ((clusterlocksref01_Checksum.f k l0).bind fun t296 => ((some (([(t296 / 16777216) % 256, (t296 / 65536) % 256, (t296 / 256) % 256, (t296) % 256] : List Int) : List Int)).bind fun y297 => (if y293.length + y297.length < 140737488355328 then (some ((y293 ++ y297), 0)) else (none))))) else (none)))
theorem clusterlocksref01_Frame.mono : ∀ a0 k, LeO (clusterlocksref01_Frame.f k a0) (clusterlocksref01_Frame.f (k + 1) a0) := by
 intro a0 k
 unfold clusterlocksref01_Frame.f
 repeat' first
   | (with_reducible exact clusterlocksref01_Checksum.mono _ _)
   | (with_reducible exact clusterlocksref01_PutUint.mono _ _ _)
   | (with_reducible exact LeO.refl _)
   | (with_reducible exact LeO.none _)
   | (with_reducible refine LeO.ite ?_ ?_)
   | (with_reducible refine LeO.bind ?_ (fun _ => ?_))
   | exact clusterlocksref01_Checksum.mono _ _
   | exact clusterlocksref01_PutUint.mono _ _ _
   | exact LeO.none _
   | refine LeO.ite ?_ ?_
   | refine LeO.bind ?_ (fun _ => ?_)
set_option maxHeartbeats 8000000 in
set_option maxRecDepth 100000 in
theorem clusterlocksref01_Frame.calls (k : Nat) (A0 : Option Addr) (c0 : Nat) (l0 : List Int) (r1 : List Int) (r2 : Int) (w : World) (hr0 : Kd.C (Kd.int .u8) w A0 l0.length l0) (hc0 : l0.length ≤ c0) (h : clusterlocksref01_Frame.f k l0 = some (r1, r2)) :
  Calls Try.prog 33 #[.slice A0 l0.length c0] w fun e w' => ∃ v0_ : Value, e = .returned (.tuple #[v0_, .int .i64 r2]) ∧ Kd.R (Kd.int .u8) 5 w' w.heap.size (fun _ => True) v0_ r1 ∧ Below w.heap.size w w' := by
 have HR0 := Aside0.mk hr0
 have HC0 := Aside0.mk hc0
 clear hr0 hc0
 have HB := am (Below.refl w.heap.size w)
 have H : (if (l0.length : Int) > 4096 then (some (([] : List Int), 3)) else ((clusterlocksref01_PutUint.f k ([] : List Int) (IntKind.u64.wrap ((l0.length : Int)))).bind fun t290 => (if t290.length + l0.length < 140737488355328 then ((some (t290 ++ l0 : List Int)).bind fun y293 => ((clusterlocksref01_Checksum.f k l0).bind fun t296 => ((some (([(t296 / 16777216) % 256, (t296 / 65536) % 256, (t296 / 256) % 256, (t296) % 256] : List Int) : List Int)).bind fun y297 => (if y293.length + y297.length < 140737488355328 then (some ((y293 ++ y297), 0)) else (none))))) else (none)))) = some (r1, r2) := h
 clear h
 by_cases c2 : (l0.length : Int) > 4096
 ·rw [if_pos c2] at H
  have c2b0 : decide (4096 < (l0.length : Int)) = true := decide_eq_true c2
  have c2b1 : decide (4096 < l0.length) = true := decide_eq_true (by omega)
  clear c2
  simp only [Option.some.injEq, Prod.mk.injEq] at H
  obtain ⟨rfl, rfl⟩ := H
  go_enter Try.func33, Try.ntmps33
  go_wp2
  go_ret2
  exact ⟨_, by first | rfl | (simp [errW_none, errW_some] <;> rfl) | (simp [*, errW_none, errW_some] <;> rfl), by first | exact Kd.R_nil _ _ _ _ _ | exact Kd.N_nil _ _ _ _ _ | exact Kd.V_nil _ _ _ _ _ | exact Kd.Q_nil _ _ _ _ _ | exact Kd.S_nil _ _ _ _ _, zL HB.out⟩
 ·rw [if_neg c2] at H
  have c2b0 : decide (4096 < (l0.length : Int)) = false := decide_eq_false c2
  have c2b1 : decide (4096 < l0.length) = false := decide_eq_false (by omega)
  clear c2
  replace H := Option.bind_eq_some_iff.mp H
  obtain ⟨t290, A30, H⟩ := H
  replace H : (if t290.length + l0.length < 140737488355328 then ((some (t290 ++ l0 : List Int)).bind fun y293 => ((clusterlocksref01_Checksum.f k l0).bind fun t296 => ((some (([(t296 / 16777216) % 256, (t296 / 65536) % 256, (t296 / 256) % 256, (t296) % 256] : List Int) : List Int)).bind fun y297 => (if y293.length + y297.length < 140737488355328 then (some ((y293 ++ y297), 0)) else (none))))) else (none)) = some (r1, r2) := H
  have A3 := Aside0.mk A30
  clear A30
  by_cases c4 : t290.length + l0.length < 140737488355328
  ·rw [if_pos c4] at H
   have LMc4 := Aside0.mk c4
   clear c4
   obtain ⟨y293, hy293⟩ : ∃ y_ : List Int, y_ = (t290 ++ l0) := ⟨_, rfl⟩
   replace H : ((clusterlocksref01_Checksum.f k l0).bind fun t296 => ((some (([(t296 / 16777216) % 256, (t296 / 65536) % 256, (t296 / 256) % 256, (t296) % 256] : List Int) : List Int)).bind fun y297 => (if y293.length + y297.length < 140737488355328 then (some ((y293 ++ y297), 0)) else (none)))) = some (r1, r2) := by first | (rw [hy293]; with_reducible exact H) | (have H2_ := (Option.bind_some _ _).symm.trans H; rw [hy293]; with_reducible exact H2_) | (have H2_ := (Option.bind_some _ _).symm.trans H; with_reducible exact H2_) | with_reducible exact H | (rw [hy293]; exact H) | exact H
   have Ny293 := Aside0.mk hy293
   clear hy293
   replace H := Option.bind_eq_some_iff.mp H
   obtain ⟨t296, A50, H⟩ := H
   replace H : ((some (([(t296 / 16777216) % 256, (t296 / 65536) % 256, (t296 / 256) % 256, (t296) % 256] : List Int) : List Int)).bind fun y297 => (if y293.length + y297.length < 140737488355328 then (some ((y293 ++ y297), 0)) else (none))) = some (r1, r2) := H
   have A5 := Aside0.mk A50
   clear A50
   obtain ⟨y297, hy297⟩ : ∃ y_ : List Int, y_ = (([(t296 / 16777216) % 256, (t296 / 65536) % 256, (t296 / 256) % 256, (t296) % 256] : List Int)) := ⟨_, rfl⟩
   replace H : (if y293.length + y297.length < 140737488355328 then (some ((y293 ++ y297), 0)) else (none)) = some (r1, r2) := by first | (rw [hy297]; with_reducible exact H) | (have H2_ := (Option.bind_some _ _).symm.trans H; rw [hy297]; with_reducible exact H2_) | (have H2_ := (Option.bind_some _ _).symm.trans H; with_reducible exact H2_) | with_reducible exact H | (rw [hy297]; exact H) | exact H
   have Ny297 := Aside0.mk hy297
   clear hy297
   by_cases c6 : y293.length + y297.length < 140737488355328
   ·rw [if_pos c6] at H
    have LMc6 := Aside0.mk c6
    clear c6
    obtain ⟨y300, hy300⟩ : ∃ y_ : List Int, y_ = (y293 ++ y297) := ⟨_, rfl⟩
    replace H : (some (y300, 0)) = some (r1, r2) := by first | (rw [hy300]; with_reducible exact H) | (have H2_ := (Option.bind_some _ _).symm.trans H; rw [hy300]; with_reducible exact H2_) | (have H2_ := (Option.bind_some _ _).symm.trans H; with_reducible exact H2_) | with_reducible exact H | (rw [hy300]; exact H) | exact H
    have Ny300 := Aside0.mk hy300
    clear hy300
    simp only [Option.some.injEq, Prod.mk.injEq] at H
    obtain ⟨rfl, rfl⟩ := H
    go_enter Try.func33, Try.ntmps33
    go_wp2_with (first | ((with_reducible refine gate_callee (f := 34) rfl ?_); refine goesL_ (some 12) rfl rfl Try.func34 (by kernel_rfl) rfl #[.slice none 0 0, .int .u64 (IntKind.u64.wrap ((l0.length : Int)))] rfl (by (try simp only [List.map_toArray, List.map_cons, List.map_nil]); first | done | rfl | (simp only [List.length_drop, List.length_take]; rfl)) ?_; (refine (clusterlocksref01_PutUint.calls k _ _ ([] : List Int) (IntKind.u64.wrap ((l0.length : Int))) t290 _ ?side1 ?side2 A3.out).mono ?_); (case side1 => exact Kd.C_nil _ _); (case side2 => exact Nat.le_refl _); rintro e w7 ⟨v291, rfl, ho0, hb⟩; refine ⟨_, rfl, ?_⟩; have n0_ := am (Kd.R_lower ho0 (below_size (zL HB.out))); have n1_ := am (below_step (zL HB.out) hb); clear HB; have HO292 := n0_; have HB := n1_; clear n0_ n1_; (try clear hb); (try clear hb2); (try clear hk); (try clear hi); (try clear ho0)) | ((with_reducible refine gate_builtin (b := .append) (xs := #[.tmp 12, .tmp 13]) rfl ?_); at_builtin; refine Kd.R_append_rows (Kd.int .u8) (w0 := w) w.heap.size rfl (.tmp 12) (.tmp 13) 22 5 (.int .u8 0) 1 rfl Try.underlying22 info5 rfl (by decide) (by omega) v291 t290 l0 _ _ _ (fun _ => True) (fun _ => False) rfl rfl ?aO ?aR (fun _ _ h => h) (fun _ h => h.elim) ?aF ?aB ?aS ?aL ?_; (case aR => exact zC (Kd.C_below HR0.out HB.out)); (case aB => exact (zL HB.out)); (case aF => exact (fun _ _ => trivial)); (case aO => exact (zR HO292.out)); (case aS => exact (below_size (zL HB.out))); (case aL => have := LMc4.out; omega); intro v294 w8 ho hb hg hat; rw [← Ny293.out] at ho; have n0_ := am (hb); have n1_ := am (ho); clear HB HO292; have HB := n0_; have HO295 := n1_; clear n0_ n1_; clear ho hb hg hat) | ((with_reducible refine gate_callee (f := 37) rfl ?_); refine goesL_ (some 16) rfl rfl Try.func37 (by kernel_rfl) rfl #[.slice A0 l0.length c0] rfl (by (try simp only [List.map_toArray, List.map_cons, List.map_nil]); first | done | rfl | (simp only [List.length_drop, List.length_take]; rfl)) ?_; (with_reducible refine (clusterlocksref01_Checksum.calls k _ _ l0 t296 _ ?side1 ?side2 A5.out).mono ?_); (case side1 => exact zC (Kd.C_below HR0.out HB.out)); (case side2 => exact HC0.out); rintro e w' ⟨rfl, ⟨nd, rfl⟩⟩; refine ⟨_, rfl, ?_⟩) | ((with_reducible refine gate_dst (N := 29) rfl ?_); refine Kd.R_lit (Kd.int .u8) _ 5 ?hg (N := 29) ?hd (xs := ([(t296 / 16777216) % 256, (t296 / 65536) % 256, (t296 / 256) % 256, (t296) % 256] : List Int)) (inner := [.int .u8 ((t296 / 16777216) % 256), .int .u8 ((t296 / 65536) % 256), .int .u8 ((t296 / 256) % 256), .int .u8 ((t296) % 256)]) (ok := fun _ => True) (okp := fun _ => True) ?hr ?hp (fun _ hk => hk) trivial (Below.refl _ _) (Nat.le_refl _) (by simp) ?_; (case hd => rfl); (case hg => rfl); (case hr => first | (go_simp; done) | (go_simp; rfl)); (case hp => exact (Reps.one (show Kd.M (Kd.int .u8) _ _ _ ((t296 / 16777216) % 256) [.int .u8 ((t296 / 16777216) % 256)] from rfl) (Reps.one (show Kd.M (Kd.int .u8) _ _ _ ((t296 / 65536) % 256) [.int .u8 ((t296 / 65536) % 256)] from rfl) (Reps.one (show Kd.M (Kd.int .u8) _ _ _ ((t296 / 256) % 256) [.int .u8 ((t296 / 256) % 256)] from rfl) (Reps.one (show Kd.M (Kd.int .u8) _ _ _ ((t296) % 256) [.int .u8 ((t296) % 256)] from rfl) (Reps.none _ _)))))); intro v298 w9 ho10 hb hg_ hnew_; clear hg_ hnew_; (first | rw [← Ny297.out] at ho10 | (simp only [Int.reduceToNat] at ho10; rw [← Ny297.out] at ho10)); have n0_ := am (Kd.R_elder' (zR HO295.out) (Kd.R_base ho10) hb); have n1_ := am (Kd.R_lower (Kd.R_new' ho10 (Kd.R_lt (zR HO295.out))) (below_size (zL HB.out))); have n2_ := am (below_step (zL HB.out) hb); clear HO295 HB; have HO295 := n0_; have HO299 := n1_; have HB := n2_; clear n0_ n1_ n2_; clear hb ho10; obtain ⟨Ao12, co12, eo12⟩ := Kd.R_slice HO299.out; subst eo12) | ((with_reducible refine gate_builtin (b := .append) (xs := #[.tmp 17, .tmp 29]) rfl ?_); at_builtin; refine Kd.R_append_rows (Kd.int .u8) (w0 := w) w.heap.size rfl (.tmp 17) (.tmp 29) 22 5 (.int .u8 0) 1 rfl Try.underlying22 info5 rfl (by decide) (by omega) v294 y293 y297 _ _ _ (fun k_ => some k_ ≠ (.slice Ao12 y297.length co12 : Value).ownBlock) (fun _ => False) rfl rfl ?aO ?aR (fun _ _ h => h) (fun _ h => h.elim) ?aF ?aB ?aS ?aL ?_; (case aR => exact zC (Kd.R_reads' HO299.out).2.2); (case aB => exact (zL HB.out)); (case aF => exact (fun k_ hk => Kd.fresh' (Kd.R_lt (zR HO299.out)) k_ hk)); (case aO => exact (by exact zR <| Kd.R_mono HO295.out (fun _ hk => hk.2))); (case aS => exact (below_size (zL HB.out))); (case aL => have := LMc6.out; omega); intro v301 w11 ho hb hg hat; rw [← Ny300.out] at ho; have n0_ := am (Kd.R_after (ok := (fun _ => True)) (zR HO299.out) hg hat); have n1_ := am (hb); have n2_ := am (ho); clear HO299 HB HO295; have HO299 := n0_; have HB := n1_; have HO302 := n2_; clear n0_ n1_ n2_; clear ho hb hg hat))
    go_ret2
    exact ⟨_, by first | rfl | (simp [errW_none, errW_some] <;> rfl) | (simp [*, errW_none, errW_some] <;> rfl), by exact zR <| Kd.R_mono HO302.out (fun _ hk => trivial), zL HB.out⟩
   ·rw [if_neg c6] at H
    exact absurd H (by simp)
  ·rw [if_neg c4] at H
   exact absurd H (by simp)

/-! ### clusterlocksref26_next: function 27 -/
def clusterlocksref26_next.f (k : Nat) (l0_0 : List Int) (l0_1 : List Int) (l1 : List Int) : Option (List Int × Bool × Int) := if (l1.length : Int) > 512 then (some (([] : List Int), false, 3)) else ((clusterlocksref26_whole.f k l0_0).bind fun bt304 => ((clusterlocksref26_whole.f k l0_1).bind fun bt308 => (if (mx bt304.2 bt308.2) = 1073741824 then (some (([] : List Int), false, 16)) else ((clusterlocksref01_PutUint.f k ([] : List Int) (IntKind.u64.wrap (wrap64 ((mx bt304.2 bt308.2) + 1)))).bind fun t312 => (if t312.length + l1.length < 140737488355328 then ((clusterlocksref01_Frame.f k (t312 ++ l1)).bind fun bt318 => (if bt304.2 = 0 then (if bt308.2 = 0 then (some (bt318.1, true, bt318.2)) else (some (bt318.1, decide (bt308.2 > bt304.2), bt318.2))) else (some (bt318.1, decide (bt308.2 > bt304.2), bt318.2)))) else (none))))))
theorem clusterlocksref26_next.mono : ∀ a0 a1 a2 k, LeO (clusterlocksref26_next.f k a0 a1 a2) (clusterlocksref26_next.f (k + 1) a0 a1 a2) := by
 intro a0 a1 a2 k
 unfold clusterlocksref26_next.f
 repeat' first
   | (with_reducible exact clusterlocksref01_Frame.mono _ _)
   | (with_reducible exact clusterlocksref01_PutUint.mono _ _ _)
   | (with_reducible exact clusterlocksref26_whole.mono _ _)
   | (with_reducible exact LeO.refl _)
   | (with_reducible exact LeO.none _)
   | (with_reducible refine LeO.ite ?_ ?_)
   | (with_reducible refine LeO.bind ?_ (fun _ => ?_))
   | exact clusterlocksref01_Frame.mono _ _
   | exact clusterlocksref01_PutUint.mono _ _ _
   | exact clusterlocksref26_whole.mono _ _
   | exact LeO.none _
   | refine LeO.ite ?_ ?_
   | refine LeO.bind ?_ (fun _ => ?_)
set_option maxHeartbeats 8000000 in
set_option maxRecDepth 100000 in
theorem clusterlocksref26_next.calls (k : Nat) (A0_0 : Option Addr) (c0_0 : Nat) (l0_0 : List Int) (A0_1 : Option Addr) (c0_1 : Nat) (l0_1 : List Int) (A1 : Option Addr) (c1 : Nat) (l1 : List Int) (r1 : List Int) (r2 : Bool) (r3 : Int) (w : World) (hr0_0 : Kd.C (Kd.int .u8) w A0_0 l0_0.length l0_0) (hc0_0 : l0_0.length ≤ c0_0) (hr0_1 : Kd.C (Kd.int .u8) w A0_1 l0_1.length l0_1) (hc0_1 : l0_1.length ≤ c0_1) (hr1 : Kd.C (Kd.int .u8) w A1 l1.length l1) (hc1 : l1.length ≤ c1) (h : clusterlocksref26_next.f k l0_0 l0_1 l1 = some (r1, r2, r3)) :
  Calls Try.prog 27 #[.agg #[.slice A0_0 l0_0.length c0_0, .slice A0_1 l0_1.length c0_1], .slice A1 l1.length c1] w fun e w' => ∃ v0_ : Value, e = .returned (.tuple #[v0_, .bool r2, .int .i64 r3]) ∧ Kd.R (Kd.int .u8) 5 w' w.heap.size (fun _ => True) v0_ r1 ∧ Below w.heap.size w w' := by
 have hu24 := Try.underlying24
 have HR0_0 := Aside0.mk hr0_0
 have HC0_0 := Aside0.mk hc0_0
 clear hr0_0 hc0_0
 have HR0_1 := Aside0.mk hr0_1
 have HC0_1 := Aside0.mk hc0_1
 clear hr0_1 hc0_1
 have HR1 := Aside0.mk hr1
 have HC1 := Aside0.mk hc1
 clear hr1 hc1
 have HB := am (Below.refl w.heap.size w)
 have H : (if (l1.length : Int) > 512 then (some (([] : List Int), false, 3)) else ((clusterlocksref26_whole.f k l0_0).bind fun bt304 => ((clusterlocksref26_whole.f k l0_1).bind fun bt308 => (if (mx bt304.2 bt308.2) = 1073741824 then (some (([] : List Int), false, 16)) else ((clusterlocksref01_PutUint.f k ([] : List Int) (IntKind.u64.wrap (wrap64 ((mx bt304.2 bt308.2) + 1)))).bind fun t312 => (if t312.length + l1.length < 140737488355328 then ((clusterlocksref01_Frame.f k (t312 ++ l1)).bind fun bt318 => (if bt304.2 = 0 then (if bt308.2 = 0 then (some (bt318.1, true, bt318.2)) else (some (bt318.1, decide (bt308.2 > bt304.2), bt318.2))) else (some (bt318.1, decide (bt308.2 > bt304.2), bt318.2)))) else (none))))))) = some (r1, r2, r3) := h
 clear h
 by_cases c3 : (l1.length : Int) > 512
 ·rw [if_pos c3] at H
  have c3b0 : decide (512 < (l1.length : Int)) = true := decide_eq_true c3
  have c3b1 : decide (512 < l1.length) = true := decide_eq_true (by omega)
  clear c3
  simp only [Option.some.injEq, Prod.mk.injEq] at H
  obtain ⟨rfl, rfl, rfl⟩ := H
  go_enter Try.func27, Try.ntmps27
  go_wp2_with (first | ((with_reducible refine gate_dst (N := 2) rfl ?_); refine box_event ?hg (N := 2) ?hd (cs := #[.slice A0_0 l0_0.length c0_0, .slice A0_1 l0_1.length c0_1]) (t := 24) ?hr ?_; (case hd => rfl); (case hg => rfl); (case hr => first | (go_simp; done) | (go_simp; rfl)); intro gb303 hg w4 hbox hb; have n0_ := am (below_step (zL HB.out) hb); have n1_ := am (hbox); have n2_ := am (zS hg HB.out); have n3_ := am (zS hg HB.out); clear HB; have HB := n0_; have BK303 := n1_; have GW303 := n2_; have GE303 := n3_; clear n0_ n1_ n2_ n3_; clear hb hbox hg))
  go_ret3
  exact ⟨_, by first | rfl | (simp [errW_none, errW_some] <;> rfl) | (simp [*, errW_none, errW_some] <;> rfl), by first | exact Kd.R_nil _ _ _ _ _ | exact Kd.N_nil _ _ _ _ _ | exact Kd.V_nil _ _ _ _ _ | exact Kd.Q_nil _ _ _ _ _ | exact Kd.S_nil _ _ _ _ _, by repeat (first | (with_reducible first | exact HB.out | apply ba | apply bd | apply be | refine below_set ?_ GE303.out) | exact HB.out)⟩
 ·rw [if_neg c3] at H
  have c3b0 : decide (512 < (l1.length : Int)) = false := decide_eq_false c3
  have c3b1 : decide (512 < l1.length) = false := decide_eq_false (by omega)
  clear c3
  replace H := Option.bind_eq_some_iff.mp H
  obtain ⟨⟨t304, t305⟩, A50, H⟩ := H
  replace H : ((clusterlocksref26_whole.f k l0_1).bind fun bt308 => (if (mx t305 bt308.2) = 1073741824 then (some (([] : List Int), false, 16)) else ((clusterlocksref01_PutUint.f k ([] : List Int) (IntKind.u64.wrap (wrap64 ((mx t305 bt308.2) + 1)))).bind fun t312 => (if t312.length + l1.length < 140737488355328 then ((clusterlocksref01_Frame.f k (t312 ++ l1)).bind fun bt318 => (if t305 = 0 then (if bt308.2 = 0 then (some (bt318.1, true, bt318.2)) else (some (bt318.1, decide (bt308.2 > t305), bt318.2))) else (some (bt318.1, decide (bt308.2 > t305), bt318.2)))) else (none))))) = some (r1, r2, r3) := H
  have A5 := Aside0.mk A50
  clear A50
  replace H := Option.bind_eq_some_iff.mp H
  obtain ⟨⟨t308, t309⟩, A60, H⟩ := H
  replace H : (if (mx t305 t309) = 1073741824 then (some (([] : List Int), false, 16)) else ((clusterlocksref01_PutUint.f k ([] : List Int) (IntKind.u64.wrap (wrap64 ((mx t305 t309) + 1)))).bind fun t312 => (if t312.length + l1.length < 140737488355328 then ((clusterlocksref01_Frame.f k (t312 ++ l1)).bind fun bt318 => (if t305 = 0 then (if t309 = 0 then (some (bt318.1, true, bt318.2)) else (some (bt318.1, decide (t309 > t305), bt318.2))) else (some (bt318.1, decide (t309 > t305), bt318.2)))) else (none)))) = some (r1, r2, r3) := H
  have A6 := Aside0.mk A60
  clear A60
  obtain ⟨ji7, hji7⟩ : ∃ j_ : Int, (mx t305 t309) = j_ := ⟨_, rfl⟩
  replace H : (if (ji7) = 1073741824 then (some (([] : List Int), false, 16)) else ((clusterlocksref01_PutUint.f k ([] : List Int) (IntKind.u64.wrap (wrap64 ((ji7) + 1)))).bind fun t312 => (if t312.length + l1.length < 140737488355328 then ((clusterlocksref01_Frame.f k (t312 ++ l1)).bind fun bt318 => (if t305 = 0 then (if t309 = 0 then (some (bt318.1, true, bt318.2)) else (some (bt318.1, decide (t309 > t305), bt318.2))) else (some (bt318.1, decide (t309 > t305), bt318.2)))) else (none)))) = some (r1, r2, r3) := by first | (rw [hji7] at H; exact H) | (simp only [hji7] at H ⊢; exact H)
  (try rw [hji7] at A5)
  (try rw [hji7] at A6)
  have hji7_ : (if t305 < t309 then t309 else t305) = ji7 := hji7
  by_cases c8 : (ji7) = 1073741824
  ·rw [if_pos c8] at H
   have c8b0 : ((ji7) == 1073741824) = true := beq_iff_eq.mpr c8
   have c8b1 : ((ji7) != 1073741824) = false := bne_eq_false_iff_eq.mpr c8
   clear c8
   simp only [Option.some.injEq, Prod.mk.injEq] at H
   obtain ⟨rfl, rfl, rfl⟩ := H
   go_enter Try.func27, Try.ntmps27
   go_wp2_with (first | ((with_reducible refine gate_dst (N := 2) rfl ?_); refine box_event ?hg (N := 2) ?hd (cs := #[.slice A0_0 l0_0.length c0_0, .slice A0_1 l0_1.length c0_1]) (t := 24) ?hr ?_; (case hd => rfl); (case hg => rfl); (case hr => first | (go_simp; done) | (go_simp; rfl)); intro gb303 hg w9 hbox hb; have n0_ := am (below_step (zL HB.out) hb); have n1_ := am (hbox); have n2_ := am (zS hg HB.out); have n3_ := am (zS hg HB.out); clear HB; have HB := n0_; have BK303 := n1_; have GW303 := n2_; have GE303 := n3_; clear n0_ n1_ n2_ n3_; clear hb hbox hg; have hcz10_0 : w9.cell? ⟨gb303, 0, none⟩ = some (.slice A0_0 l0_0.length c0_0) := (blk_cell BK303.out 0).trans rfl; have hcz10_1 : w9.cell? ⟨gb303, 1, none⟩ = some (.slice A0_1 l0_1.length c0_1) := (blk_cell BK303.out 1).trans rfl; have hfz10_0 := blk_frozen BK303.out 0; have hfz10_1 := blk_frozen BK303.out 1) | ((with_reducible refine gate_callee (f := 22) rfl ?_); refine goesL_ (some 19) rfl rfl Try.func22 (by kernel_rfl) rfl #[.slice A0_0 l0_0.length c0_0] rfl (by (try simp only [List.map_toArray, List.map_cons, List.map_nil]); first | done | rfl | (simp only [List.length_drop, List.length_take]; rfl)) ?_; (with_reducible refine (clusterlocksref26_whole.calls k _ _ l0_0 t304 t305 _ ?side1 ?side2 A5.out).mono ?_); (case side1 => exact zC (Kd.C_below HR0_0.out HB.out)); (case side2 => exact HC0_0.out); rintro e w11 ⟨v306, rfl, ho0, hb⟩; refine ⟨_, rfl, ?_⟩; have n0_ := am (Kd.R_lower ho0 (below_size (zL HB.out))); have n1_ := am (blk_below (zB BK303.out) hb); have n2_ := am (below_step (zL HB.out) hb); clear BK303 HB; have HO307 := n0_; have BK303 := n1_; have HB := n2_; clear n0_ n1_ n2_; (try clear hb); (try clear hb2); (try clear hk); (try clear hi); (try clear ho0); have hcz12_0 : w11.cell? ⟨gb303, 0, none⟩ = some (.slice A0_0 l0_0.length c0_0) := (blk_cell BK303.out 0).trans rfl; have hcz12_1 : w11.cell? ⟨gb303, 1, none⟩ = some (.slice A0_1 l0_1.length c0_1) := (blk_cell BK303.out 1).trans rfl; have hfz12_0 := blk_frozen BK303.out 0; have hfz12_1 := blk_frozen BK303.out 1) | ((with_reducible refine gate_callee (f := 22) rfl ?_); refine goesL_ (some 25) rfl rfl Try.func22 (by kernel_rfl) rfl #[.slice A0_1 l0_1.length c0_1] rfl (by (try simp only [List.map_toArray, List.map_cons, List.map_nil]); first | done | rfl | (simp only [List.length_drop, List.length_take]; rfl)) ?_; (with_reducible refine (clusterlocksref26_whole.calls k _ _ l0_1 t308 t309 _ ?side1 ?side2 A6.out).mono ?_); (case side1 => exact zC (Kd.C_below HR0_1.out HB.out)); (case side2 => exact HC0_1.out); rintro e w13 ⟨v310, rfl, ho0, hb⟩; refine ⟨_, rfl, ?_⟩; have n0_ := am (Kd.R_elder' (zR HO307.out) (Kd.R_base ho0) hb); have n1_ := am (Kd.R_lower (Kd.R_new' ho0 (Kd.R_lt (zR HO307.out))) (below_size (zL HB.out))); have n2_ := am (blk_below (zB BK303.out) hb); have n3_ := am (below_step (zL HB.out) hb); clear HO307 BK303 HB; have HO307 := n0_; have HO311 := n1_; have BK303 := n2_; have HB := n3_; clear n0_ n1_ n2_ n3_; (try clear hb); (try clear hb2); (try clear hk); (try clear hi); (try clear ho0)))
   go_ret3
   exact ⟨_, by first | rfl | (simp [errW_none, errW_some] <;> rfl) | (simp only [← hji7]; first | rfl | (simp [errW_none, errW_some] <;> rfl)) | (simp [*, errW_none, errW_some] <;> rfl), by first | exact Kd.R_nil _ _ _ _ _ | exact Kd.N_nil _ _ _ _ _ | exact Kd.V_nil _ _ _ _ _ | exact Kd.Q_nil _ _ _ _ _ | exact Kd.S_nil _ _ _ _ _, by repeat (first | (with_reducible first | exact HB.out | apply ba | apply bd | apply be | refine below_set ?_ GE303.out) | exact HB.out)⟩
  ·rw [if_neg c8] at H
   have c8b0 : ((ji7) == 1073741824) = false := beq_eq_false_iff_ne.mpr c8
   have c8b1 : ((ji7) != 1073741824) = true := bne_iff_ne.mpr c8
   replace H := Option.bind_eq_some_iff.mp H
   obtain ⟨t312, A140, H⟩ := H
   replace H : (if t312.length + l1.length < 140737488355328 then ((clusterlocksref01_Frame.f k (t312 ++ l1)).bind fun bt318 => (if t305 = 0 then (if t309 = 0 then (some (bt318.1, true, bt318.2)) else (some (bt318.1, decide (t309 > t305), bt318.2))) else (some (bt318.1, decide (t309 > t305), bt318.2)))) else (none)) = some (r1, r2, r3) := H
   have A14 := Aside0.mk A140
   clear A140
   by_cases c15 : t312.length + l1.length < 140737488355328
   ·rw [if_pos c15] at H
    have LMc15 := Aside0.mk c15
    clear c15
    obtain ⟨y315, hy315⟩ : ∃ y_ : List Int, y_ = (t312 ++ l1) := ⟨_, rfl⟩
    replace H : ((clusterlocksref01_Frame.f k y315).bind fun bt318 => (if t305 = 0 then (if t309 = 0 then (some (bt318.1, true, bt318.2)) else (some (bt318.1, decide (t309 > t305), bt318.2))) else (some (bt318.1, decide (t309 > t305), bt318.2)))) = some (r1, r2, r3) := by first | (rw [hy315]; with_reducible exact H) | (have H2_ := (Option.bind_some _ _).symm.trans H; rw [hy315]; with_reducible exact H2_) | (have H2_ := (Option.bind_some _ _).symm.trans H; with_reducible exact H2_) | with_reducible exact H | (rw [hy315]; exact H) | exact H
    have Ny315 := Aside0.mk hy315
    clear hy315
    replace H := Option.bind_eq_some_iff.mp H
    obtain ⟨⟨t318, t319⟩, A160, H⟩ := H
    replace H : (if t305 = 0 then (if t309 = 0 then (some (t318, true, t319)) else (some (t318, decide (t309 > t305), t319))) else (some (t318, decide (t309 > t305), t319))) = some (r1, r2, r3) := H
    have A16 := Aside0.mk A160
    clear A160
    by_cases c17 : t305 = 0
    ·rw [if_pos c17] at H
     have c17b0 : (t305 == 0) = true := beq_iff_eq.mpr c17
     have c17b1 : (t305 != 0) = false := bne_eq_false_iff_eq.mpr c17
     clear c17
     by_cases c18 : t309 = 0
     ·rw [if_pos c18] at H
      have c18b0 : (t309 == 0) = true := beq_iff_eq.mpr c18
      have c18b1 : (t309 != 0) = false := bne_eq_false_iff_eq.mpr c18
      clear c18
      simp only [Option.some.injEq, Prod.mk.injEq] at H
      obtain ⟨rfl, rfl, rfl⟩ := H
      go_enter Try.func27, Try.ntmps27
      go_wp2_with (first | ((with_reducible refine gate_dst (N := 2) rfl ?_); refine box_event ?hg (N := 2) ?hd (cs := #[.slice A0_0 l0_0.length c0_0, .slice A0_1 l0_1.length c0_1]) (t := 24) ?hr ?_; (case hd => rfl); (case hg => rfl); (case hr => first | (go_simp; done) | (go_simp; rfl)); intro gb303 hg w19 hbox hb; have n0_ := am (below_step (zL HB.out) hb); have n1_ := am (hbox); have n2_ := am (zS hg HB.out); have n3_ := am (zS hg HB.out); clear HB; have HB := n0_; have BK303 := n1_; have GW303 := n2_; have GE303 := n3_; clear n0_ n1_ n2_ n3_; clear hb hbox hg; have hcz20_0 : w19.cell? ⟨gb303, 0, none⟩ = some (.slice A0_0 l0_0.length c0_0) := (blk_cell BK303.out 0).trans rfl; have hcz20_1 : w19.cell? ⟨gb303, 1, none⟩ = some (.slice A0_1 l0_1.length c0_1) := (blk_cell BK303.out 1).trans rfl; have hfz20_0 := blk_frozen BK303.out 0; have hfz20_1 := blk_frozen BK303.out 1) | ((with_reducible refine gate_callee (f := 22) rfl ?_); refine goesL_ (some 19) rfl rfl Try.func22 (by kernel_rfl) rfl #[.slice A0_0 l0_0.length c0_0] rfl (by (try simp only [List.map_toArray, List.map_cons, List.map_nil]); first | done | rfl | (simp only [List.length_drop, List.length_take]; rfl)) ?_; (with_reducible refine (clusterlocksref26_whole.calls k _ _ l0_0 t304 t305 _ ?side1 ?side2 A5.out).mono ?_); (case side1 => exact zC (Kd.C_below HR0_0.out HB.out)); (case side2 => exact HC0_0.out); rintro e w21 ⟨v306, rfl, ho0, hb⟩; refine ⟨_, rfl, ?_⟩; have n0_ := am (Kd.R_lower ho0 (below_size (zL HB.out))); have n1_ := am (blk_below (zB BK303.out) hb); have n2_ := am (below_step (zL HB.out) hb); clear BK303 HB; have HO307 := n0_; have BK303 := n1_; have HB := n2_; clear n0_ n1_ n2_; (try clear hb); (try clear hb2); (try clear hk); (try clear hi); (try clear ho0); have hcz22_0 : w21.cell? ⟨gb303, 0, none⟩ = some (.slice A0_0 l0_0.length c0_0) := (blk_cell BK303.out 0).trans rfl; have hcz22_1 : w21.cell? ⟨gb303, 1, none⟩ = some (.slice A0_1 l0_1.length c0_1) := (blk_cell BK303.out 1).trans rfl; have hfz22_0 := blk_frozen BK303.out 0; have hfz22_1 := blk_frozen BK303.out 1) | ((with_reducible refine gate_callee (f := 22) rfl ?_); refine goesL_ (some 25) rfl rfl Try.func22 (by kernel_rfl) rfl #[.slice A0_1 l0_1.length c0_1] rfl (by (try simp only [List.map_toArray, List.map_cons, List.map_nil]); first | done | rfl | (simp only [List.length_drop, List.length_take]; rfl)) ?_; (with_reducible refine (clusterlocksref26_whole.calls k _ _ l0_1 t308 t309 _ ?side1 ?side2 A6.out).mono ?_); (case side1 => exact zC (Kd.C_below HR0_1.out HB.out)); (case side2 => exact HC0_1.out); rintro e w23 ⟨v310, rfl, ho0, hb⟩; refine ⟨_, rfl, ?_⟩; have n0_ := am (Kd.R_elder' (zR HO307.out) (Kd.R_base ho0) hb); have n1_ := am (Kd.R_lower (Kd.R_new' ho0 (Kd.R_lt (zR HO307.out))) (below_size (zL HB.out))); have n2_ := am (blk_below (zB BK303.out) hb); have n3_ := am (below_step (zL HB.out) hb); clear HO307 BK303 HB; have HO307 := n0_; have HO311 := n1_; have BK303 := n2_; have HB := n3_; clear n0_ n1_ n2_ n3_; (try clear hb); (try clear hb2); (try clear hk); (try clear hi); (try clear ho0)) | ((with_reducible refine gate_callee (f := 34) rfl ?_); refine goesL_ (some 38) rfl rfl Try.func34 (by kernel_rfl) rfl #[.slice none 0 0, .int .u64 (IntKind.u64.wrap (wrap64 ((ji7) + 1)))] rfl (by (try simp only [List.map_toArray, List.map_cons, List.map_nil]); first | done | (simp only [hji7]; rfl) | rfl | (simp only [List.length_drop, List.length_take]; rfl)) ?_; (refine (clusterlocksref01_PutUint.calls k _ _ ([] : List Int) (IntKind.u64.wrap (wrap64 ((ji7) + 1))) t312 _ ?side1 ?side2 A14.out).mono ?_); (case side1 => exact Kd.C_nil _ _); (case side2 => exact Nat.le_refl _); rintro e w24 ⟨v313, rfl, ho0, hb⟩; refine ⟨_, rfl, ?_⟩; have n0_ := am (Kd.R_elder' (zR HO307.out) (Kd.R_base ho0) hb); have n1_ := am (Kd.R_elder' (zR HO311.out) (Kd.R_base ho0) hb); have n2_ := am (Kd.R_lower (Kd.R_new' (Kd.R_new' ho0 (Kd.R_lt (zR HO307.out))) (Kd.R_lt (zR HO311.out))) (below_size (zL HB.out))); have n3_ := am (blk_below (zB BK303.out) hb); have n4_ := am (below_step (zL HB.out) hb); clear HO307 HO311 BK303 HB; have HO307 := n0_; have HO311 := n1_; have HO314 := n2_; have BK303 := n3_; have HB := n4_; clear n0_ n1_ n2_ n3_ n4_; (try clear hb); (try clear hb2); (try clear hk); (try clear hi); (try clear ho0)) | ((with_reducible refine gate_builtin (b := .append) (xs := #[.tmp 38, .tmp 39]) rfl ?_); at_builtin; refine Kd.R_append_rows (Kd.int .u8) (w0 := w) w.heap.size rfl (.tmp 38) (.tmp 39) 22 5 (.int .u8 0) 1 rfl Try.underlying22 info5 rfl (by decide) (by omega) v313 t312 l1 _ _ _ (fun k_ => some k_ ≠ (v306 : Value).ownBlock ∧ some k_ ≠ (v310 : Value).ownBlock) (fun _ => False) rfl rfl ?aO ?aR (fun _ _ h => h) (fun _ h => h.elim) ?aF ?aB ?aS ?aL ?_; (case aR => exact zC (Kd.C_below HR1.out HB.out)); (case aB => exact (by repeat (first | (with_reducible first | exact HB.out | apply ba | apply bd | apply be | refine below_set ?_ GE303.out) | exact HB.out))); (case aF => exact (fun k_ hk => ⟨Kd.fresh' (Kd.R_lt (zR HO307.out)) k_ hk, Kd.fresh' (Kd.R_lt (zR HO311.out)) k_ hk⟩)); (case aO => exact (by exact zR <| Kd.R_mono HO314.out (fun _ hk => ⟨hk.1.2, hk.2⟩))); (case aS => exact (below_size (zL HB.out))); (case aL => have := LMc15.out; omega); intro v316 w25 ho hb hg hat; rw [← Ny315.out] at ho; have n0_ := am (blk_grown (g := gb303) (o := .cells #[.slice A0_0 l0_0.length c0_0, .slice A0_1 l0_1.length c0_1] 24 (0, 0)) (zB BK303.out) hg (Kd.R_ne HO314.out BK303.out (by decide))); have n1_ := am (Kd.R_after (ok := (fun k_ => some k_ ≠ (v310 : Value).ownBlock)) (by exact zR <| Kd.R_mono HO307.out (fun _ hk => ⟨hk.1.2, hk.2⟩)) hg hat); have n2_ := am (Kd.R_after (ok := (fun k_ => some k_ ≠ (v306 : Value).ownBlock)) (by exact zR <| Kd.R_mono HO311.out (fun _ hk => ⟨hk.1.2, hk.2⟩)) hg hat); have n3_ := am (hb); have n4_ := am (ho); clear BK303 HO307 HO311 HB HO314; have BK303 := n0_; have HO307 := n1_; have HO311 := n2_; have HB := n3_; have HO317 := n4_; clear n0_ n1_ n2_ n3_ n4_; clear ho hb hg hat; obtain ⟨Ao26, co26, eo26⟩ := Kd.R_slice HO317.out; subst eo26) | ((with_reducible refine gate_callee (f := 33) rfl ?_); refine goesL_ (some 41) rfl rfl Try.func33 (by kernel_rfl) rfl #[.slice Ao26 y315.length co26] rfl (by (try simp only [List.map_toArray, List.map_cons, List.map_nil]); first | done | rfl | (simp only [List.length_drop, List.length_take]; rfl)) ?_; (with_reducible refine (clusterlocksref01_Frame.calls k _ _ y315 t318 t319 _ ?side1 ?side2 A16.out).mono ?_); (case side1 => exact zC (Kd.R_reads' HO317.out).2.2); (case side2 => exact (Kd.R_reads' HO317.out).2.1); rintro e w27 ⟨v320, rfl, ho0, hb⟩; refine ⟨_, rfl, ?_⟩; have n0_ := am (Kd.R_elder' (zR HO307.out) (Kd.R_base ho0) hb); have n1_ := am (Kd.R_elder' (zR HO311.out) (Kd.R_base ho0) hb); have n2_ := am (Kd.R_elder' (zR HO317.out) (Kd.R_base ho0) hb); have n3_ := am (Kd.R_lower (Kd.R_new' (Kd.R_new' (Kd.R_new' ho0 (Kd.R_lt (zR HO307.out))) (Kd.R_lt (zR HO311.out))) (Kd.R_lt (zR HO317.out))) (below_size (zL HB.out))); have n4_ := am (blk_below (zB BK303.out) hb); have n5_ := am (below_step (zL HB.out) hb); clear HO307 HO311 HO317 BK303 HB; have HO307 := n0_; have HO311 := n1_; have HO317 := n2_; have HO321 := n3_; have BK303 := n4_; have HB := n5_; clear n0_ n1_ n2_ n3_ n4_ n5_; (try clear hb); (try clear hb2); (try clear hk); (try clear hi); (try clear ho0)))
      go_ret3
      exact ⟨_, by first | rfl | (simp [errW_none, errW_some] <;> rfl) | (simp only [← hji7]; first | rfl | (simp [errW_none, errW_some] <;> rfl)) | (simp [*, errW_none, errW_some] <;> rfl), by exact zR <| Kd.R_mono HO321.out (fun _ hk => trivial), by repeat (first | (with_reducible first | exact HB.out | apply ba | apply bd | apply be | refine below_set ?_ GE303.out) | exact HB.out)⟩
     ·rw [if_neg c18] at H
      have c18b0 : (t309 == 0) = false := beq_eq_false_iff_ne.mpr c18
      have c18b1 : (t309 != 0) = true := bne_iff_ne.mpr c18
      simp only [Option.some.injEq, Prod.mk.injEq] at H
      obtain ⟨rfl, rfl, rfl⟩ := H
      go_enter Try.func27, Try.ntmps27
      go_wp2_with (first | ((with_reducible refine gate_dst (N := 2) rfl ?_); refine box_event ?hg (N := 2) ?hd (cs := #[.slice A0_0 l0_0.length c0_0, .slice A0_1 l0_1.length c0_1]) (t := 24) ?hr ?_; (case hd => rfl); (case hg => rfl); (case hr => first | (go_simp; done) | (go_simp; rfl)); intro gb303 hg w28 hbox hb; have n0_ := am (below_step (zL HB.out) hb); have n1_ := am (hbox); have n2_ := am (zS hg HB.out); have n3_ := am (zS hg HB.out); clear HB; have HB := n0_; have BK303 := n1_; have GW303 := n2_; have GE303 := n3_; clear n0_ n1_ n2_ n3_; clear hb hbox hg; have hcz29_0 : w28.cell? ⟨gb303, 0, none⟩ = some (.slice A0_0 l0_0.length c0_0) := (blk_cell BK303.out 0).trans rfl; have hcz29_1 : w28.cell? ⟨gb303, 1, none⟩ = some (.slice A0_1 l0_1.length c0_1) := (blk_cell BK303.out 1).trans rfl; have hfz29_0 := blk_frozen BK303.out 0; have hfz29_1 := blk_frozen BK303.out 1) | ((with_reducible refine gate_callee (f := 22) rfl ?_); refine goesL_ (some 19) rfl rfl Try.func22 (by kernel_rfl) rfl #[.slice A0_0 l0_0.length c0_0] rfl (by (try simp only [List.map_toArray, List.map_cons, List.map_nil]); first | done | rfl | (simp only [List.length_drop, List.length_take]; rfl)) ?_; (with_reducible refine (clusterlocksref26_whole.calls k _ _ l0_0 t304 t305 _ ?side1 ?side2 A5.out).mono ?_); (case side1 => exact zC (Kd.C_below HR0_0.out HB.out)); (case side2 => exact HC0_0.out); rintro e w30 ⟨v306, rfl, ho0, hb⟩; refine ⟨_, rfl, ?_⟩; have n0_ := am (Kd.R_lower ho0 (below_size (zL HB.out))); have n1_ := am (blk_below (zB BK303.out) hb); have n2_ := am (below_step (zL HB.out) hb); clear BK303 HB; have HO307 := n0_; have BK303 := n1_; have HB := n2_; clear n0_ n1_ n2_; (try clear hb); (try clear hb2); (try clear hk); (try clear hi); (try clear ho0); have hcz31_0 : w30.cell? ⟨gb303, 0, none⟩ = some (.slice A0_0 l0_0.length c0_0) := (blk_cell BK303.out 0).trans rfl; have hcz31_1 : w30.cell? ⟨gb303, 1, none⟩ = some (.slice A0_1 l0_1.length c0_1) := (blk_cell BK303.out 1).trans rfl; have hfz31_0 := blk_frozen BK303.out 0; have hfz31_1 := blk_frozen BK303.out 1) | ((with_reducible refine gate_callee (f := 22) rfl ?_); refine goesL_ (some 25) rfl rfl Try.func22 (by kernel_rfl) rfl #[.slice A0_1 l0_1.length c0_1] rfl (by (try simp only [List.map_toArray, List.map_cons, List.map_nil]); first | done | rfl | (simp only [List.length_drop, List.length_take]; rfl)) ?_; (with_reducible refine (clusterlocksref26_whole.calls k _ _ l0_1 t308 t309 _ ?side1 ?side2 A6.out).mono ?_); (case side1 => exact zC (Kd.C_below HR0_1.out HB.out)); (case side2 => exact HC0_1.out); rintro e w32 ⟨v310, rfl, ho0, hb⟩; refine ⟨_, rfl, ?_⟩; have n0_ := am (Kd.R_elder' (zR HO307.out) (Kd.R_base ho0) hb); have n1_ := am (Kd.R_lower (Kd.R_new' ho0 (Kd.R_lt (zR HO307.out))) (below_size (zL HB.out))); have n2_ := am (blk_below (zB BK303.out) hb); have n3_ := am (below_step (zL HB.out) hb); clear HO307 BK303 HB; have HO307 := n0_; have HO311 := n1_; have BK303 := n2_; have HB := n3_; clear n0_ n1_ n2_ n3_; (try clear hb); (try clear hb2); (try clear hk); (try clear hi); (try clear ho0)) | ((with_reducible refine gate_callee (f := 34) rfl ?_); refine goesL_ (some 38) rfl rfl Try.func34 (by kernel_rfl) rfl #[.slice none 0 0, .int .u64 (IntKind.u64.wrap (wrap64 ((ji7) + 1)))] rfl (by (try simp only [List.map_toArray, List.map_cons, List.map_nil]); first | done | (simp only [hji7]; rfl) | rfl | (simp only [List.length_drop, List.length_take]; rfl)) ?_; (refine (clusterlocksref01_PutUint.calls k _ _ ([] : List Int) (IntKind.u64.wrap (wrap64 ((ji7) + 1))) t312 _ ?side1 ?side2 A14.out).mono ?_); (case side1 => exact Kd.C_nil _ _); (case side2 => exact Nat.le_refl _); rintro e w33 ⟨v313, rfl, ho0, hb⟩; refine ⟨_, rfl, ?_⟩; have n0_ := am (Kd.R_elder' (zR HO307.out) (Kd.R_base ho0) hb); have n1_ := am (Kd.R_elder' (zR HO311.out) (Kd.R_base ho0) hb); have n2_ := am (Kd.R_lower (Kd.R_new' (Kd.R_new' ho0 (Kd.R_lt (zR HO307.out))) (Kd.R_lt (zR HO311.out))) (below_size (zL HB.out))); have n3_ := am (blk_below (zB BK303.out) hb); have n4_ := am (below_step (zL HB.out) hb); clear HO307 HO311 BK303 HB; have HO307 := n0_; have HO311 := n1_; have HO314 := n2_; have BK303 := n3_; have HB := n4_; clear n0_ n1_ n2_ n3_ n4_; (try clear hb); (try clear hb2); (try clear hk); (try clear hi); (try clear ho0)) | ((with_reducible refine gate_builtin (b := .append) (xs := #[.tmp 38, .tmp 39]) rfl ?_); at_builtin; refine Kd.R_append_rows (Kd.int .u8) (w0 := w) w.heap.size rfl (.tmp 38) (.tmp 39) 22 5 (.int .u8 0) 1 rfl Try.underlying22 info5 rfl (by decide) (by omega) v313 t312 l1 _ _ _ (fun k_ => some k_ ≠ (v306 : Value).ownBlock ∧ some k_ ≠ (v310 : Value).ownBlock) (fun _ => False) rfl rfl ?aO ?aR (fun _ _ h => h) (fun _ h => h.elim) ?aF ?aB ?aS ?aL ?_; (case aR => exact zC (Kd.C_below HR1.out HB.out)); (case aB => exact (by repeat (first | (with_reducible first | exact HB.out | apply ba | apply bd | apply be | refine below_set ?_ GE303.out) | exact HB.out))); (case aF => exact (fun k_ hk => ⟨Kd.fresh' (Kd.R_lt (zR HO307.out)) k_ hk, Kd.fresh' (Kd.R_lt (zR HO311.out)) k_ hk⟩)); (case aO => exact (by exact zR <| Kd.R_mono HO314.out (fun _ hk => ⟨hk.1.2, hk.2⟩))); (case aS => exact (below_size (zL HB.out))); (case aL => have := LMc15.out; omega); intro v316 w34 ho hb hg hat; rw [← Ny315.out] at ho; have n0_ := am (blk_grown (g := gb303) (o := .cells #[.slice A0_0 l0_0.length c0_0, .slice A0_1 l0_1.length c0_1] 24 (0, 0)) (zB BK303.out) hg (Kd.R_ne HO314.out BK303.out (by decide))); have n1_ := am (Kd.R_after (ok := (fun k_ => some k_ ≠ (v310 : Value).ownBlock)) (by exact zR <| Kd.R_mono HO307.out (fun _ hk => ⟨hk.1.2, hk.2⟩)) hg hat); have n2_ := am (Kd.R_after (ok := (fun k_ => some k_ ≠ (v306 : Value).ownBlock)) (by exact zR <| Kd.R_mono HO311.out (fun _ hk => ⟨hk.1.2, hk.2⟩)) hg hat); have n3_ := am (hb); have n4_ := am (ho); clear BK303 HO307 HO311 HB HO314; have BK303 := n0_; have HO307 := n1_; have HO311 := n2_; have HB := n3_; have HO317 := n4_; clear n0_ n1_ n2_ n3_ n4_; clear ho hb hg hat; obtain ⟨Ao35, co35, eo35⟩ := Kd.R_slice HO317.out; subst eo35) | ((with_reducible refine gate_callee (f := 33) rfl ?_); refine goesL_ (some 41) rfl rfl Try.func33 (by kernel_rfl) rfl #[.slice Ao35 y315.length co35] rfl (by (try simp only [List.map_toArray, List.map_cons, List.map_nil]); first | done | rfl | (simp only [List.length_drop, List.length_take]; rfl)) ?_; (with_reducible refine (clusterlocksref01_Frame.calls k _ _ y315 t318 t319 _ ?side1 ?side2 A16.out).mono ?_); (case side1 => exact zC (Kd.R_reads' HO317.out).2.2); (case side2 => exact (Kd.R_reads' HO317.out).2.1); rintro e w36 ⟨v320, rfl, ho0, hb⟩; refine ⟨_, rfl, ?_⟩; have n0_ := am (Kd.R_elder' (zR HO307.out) (Kd.R_base ho0) hb); have n1_ := am (Kd.R_elder' (zR HO311.out) (Kd.R_base ho0) hb); have n2_ := am (Kd.R_elder' (zR HO317.out) (Kd.R_base ho0) hb); have n3_ := am (Kd.R_lower (Kd.R_new' (Kd.R_new' (Kd.R_new' ho0 (Kd.R_lt (zR HO307.out))) (Kd.R_lt (zR HO311.out))) (Kd.R_lt (zR HO317.out))) (below_size (zL HB.out))); have n4_ := am (blk_below (zB BK303.out) hb); have n5_ := am (below_step (zL HB.out) hb); clear HO307 HO311 HO317 BK303 HB; have HO307 := n0_; have HO311 := n1_; have HO317 := n2_; have HO321 := n3_; have BK303 := n4_; have HB := n5_; clear n0_ n1_ n2_ n3_ n4_ n5_; (try clear hb); (try clear hb2); (try clear hk); (try clear hi); (try clear ho0)))
      go_ret3
      exact ⟨_, by first | rfl | (simp [errW_none, errW_some] <;> rfl) | (simp only [← hji7]; first | rfl | (simp [errW_none, errW_some] <;> rfl)) | (simp [*, errW_none, errW_some] <;> rfl), by exact zR <| Kd.R_mono HO321.out (fun _ hk => trivial), by repeat (first | (with_reducible first | exact HB.out | apply ba | apply bd | apply be | refine below_set ?_ GE303.out) | exact HB.out)⟩
    ·rw [if_neg c17] at H
     have c17b0 : (t305 == 0) = false := beq_eq_false_iff_ne.mpr c17
     have c17b1 : (t305 != 0) = true := bne_iff_ne.mpr c17
     simp only [Option.some.injEq, Prod.mk.injEq] at H
     obtain ⟨rfl, rfl, rfl⟩ := H
     go_enter Try.func27, Try.ntmps27
     go_wp2_with (first | ((with_reducible refine gate_dst (N := 2) rfl ?_); refine box_event ?hg (N := 2) ?hd (cs := #[.slice A0_0 l0_0.length c0_0, .slice A0_1 l0_1.length c0_1]) (t := 24) ?hr ?_; (case hd => rfl); (case hg => rfl); (case hr => first | (go_simp; done) | (go_simp; rfl)); intro gb303 hg w37 hbox hb; have n0_ := am (below_step (zL HB.out) hb); have n1_ := am (hbox); have n2_ := am (zS hg HB.out); have n3_ := am (zS hg HB.out); clear HB; have HB := n0_; have BK303 := n1_; have GW303 := n2_; have GE303 := n3_; clear n0_ n1_ n2_ n3_; clear hb hbox hg; have hcz38_0 : w37.cell? ⟨gb303, 0, none⟩ = some (.slice A0_0 l0_0.length c0_0) := (blk_cell BK303.out 0).trans rfl; have hcz38_1 : w37.cell? ⟨gb303, 1, none⟩ = some (.slice A0_1 l0_1.length c0_1) := (blk_cell BK303.out 1).trans rfl; have hfz38_0 := blk_frozen BK303.out 0; have hfz38_1 := blk_frozen BK303.out 1) | ((with_reducible refine gate_callee (f := 22) rfl ?_); refine goesL_ (some 19) rfl rfl Try.func22 (by kernel_rfl) rfl #[.slice A0_0 l0_0.length c0_0] rfl (by (try simp only [List.map_toArray, List.map_cons, List.map_nil]); first | done | rfl | (simp only [List.length_drop, List.length_take]; rfl)) ?_; (with_reducible refine (clusterlocksref26_whole.calls k _ _ l0_0 t304 t305 _ ?side1 ?side2 A5.out).mono ?_); (case side1 => exact zC (Kd.C_below HR0_0.out HB.out)); (case side2 => exact HC0_0.out); rintro e w39 ⟨v306, rfl, ho0, hb⟩; refine ⟨_, rfl, ?_⟩; have n0_ := am (Kd.R_lower ho0 (below_size (zL HB.out))); have n1_ := am (blk_below (zB BK303.out) hb); have n2_ := am (below_step (zL HB.out) hb); clear BK303 HB; have HO307 := n0_; have BK303 := n1_; have HB := n2_; clear n0_ n1_ n2_; (try clear hb); (try clear hb2); (try clear hk); (try clear hi); (try clear ho0); have hcz40_0 : w39.cell? ⟨gb303, 0, none⟩ = some (.slice A0_0 l0_0.length c0_0) := (blk_cell BK303.out 0).trans rfl; have hcz40_1 : w39.cell? ⟨gb303, 1, none⟩ = some (.slice A0_1 l0_1.length c0_1) := (blk_cell BK303.out 1).trans rfl; have hfz40_0 := blk_frozen BK303.out 0; have hfz40_1 := blk_frozen BK303.out 1) | ((with_reducible refine gate_callee (f := 22) rfl ?_); refine goesL_ (some 25) rfl rfl Try.func22 (by kernel_rfl) rfl #[.slice A0_1 l0_1.length c0_1] rfl (by (try simp only [List.map_toArray, List.map_cons, List.map_nil]); first | done | rfl | (simp only [List.length_drop, List.length_take]; rfl)) ?_; (with_reducible refine (clusterlocksref26_whole.calls k _ _ l0_1 t308 t309 _ ?side1 ?side2 A6.out).mono ?_); (case side1 => exact zC (Kd.C_below HR0_1.out HB.out)); (case side2 => exact HC0_1.out); rintro e w41 ⟨v310, rfl, ho0, hb⟩; refine ⟨_, rfl, ?_⟩; have n0_ := am (Kd.R_elder' (zR HO307.out) (Kd.R_base ho0) hb); have n1_ := am (Kd.R_lower (Kd.R_new' ho0 (Kd.R_lt (zR HO307.out))) (below_size (zL HB.out))); have n2_ := am (blk_below (zB BK303.out) hb); have n3_ := am (below_step (zL HB.out) hb); clear HO307 BK303 HB; have HO307 := n0_; have HO311 := n1_; have BK303 := n2_; have HB := n3_; clear n0_ n1_ n2_ n3_; (try clear hb); (try clear hb2); (try clear hk); (try clear hi); (try clear ho0)) | ((with_reducible refine gate_callee (f := 34) rfl ?_); refine goesL_ (some 38) rfl rfl Try.func34 (by kernel_rfl) rfl #[.slice none 0 0, .int .u64 (IntKind.u64.wrap (wrap64 ((ji7) + 1)))] rfl (by (try simp only [List.map_toArray, List.map_cons, List.map_nil]); first | done | (simp only [hji7]; rfl) | rfl | (simp only [List.length_drop, List.length_take]; rfl)) ?_; (refine (clusterlocksref01_PutUint.calls k _ _ ([] : List Int) (IntKind.u64.wrap (wrap64 ((ji7) + 1))) t312 _ ?side1 ?side2 A14.out).mono ?_); (case side1 => exact Kd.C_nil _ _); (case side2 => exact Nat.le_refl _); rintro e w42 ⟨v313, rfl, ho0, hb⟩; refine ⟨_, rfl, ?_⟩; have n0_ := am (Kd.R_elder' (zR HO307.out) (Kd.R_base ho0) hb); have n1_ := am (Kd.R_elder' (zR HO311.out) (Kd.R_base ho0) hb); have n2_ := am (Kd.R_lower (Kd.R_new' (Kd.R_new' ho0 (Kd.R_lt (zR HO307.out))) (Kd.R_lt (zR HO311.out))) (below_size (zL HB.out))); have n3_ := am (blk_below (zB BK303.out) hb); have n4_ := am (below_step (zL HB.out) hb); clear HO307 HO311 BK303 HB; have HO307 := n0_; have HO311 := n1_; have HO314 := n2_; have BK303 := n3_; have HB := n4_; clear n0_ n1_ n2_ n3_ n4_; (try clear hb); (try clear hb2); (try clear hk); (try clear hi); (try clear ho0)) | ((with_reducible refine gate_builtin (b := .append) (xs := #[.tmp 38, .tmp 39]) rfl ?_); at_builtin; refine Kd.R_append_rows (Kd.int .u8) (w0 := w) w.heap.size rfl (.tmp 38) (.tmp 39) 22 5 (.int .u8 0) 1 rfl Try.underlying22 info5 rfl (by decide) (by omega) v313 t312 l1 _ _ _ (fun k_ => some k_ ≠ (v306 : Value).ownBlock ∧ some k_ ≠ (v310 : Value).ownBlock) (fun _ => False) rfl rfl ?aO ?aR (fun _ _ h => h) (fun _ h => h.elim) ?aF ?aB ?aS ?aL ?_; (case aR => exact zC (Kd.C_below HR1.out HB.out)); (case aB => exact (by repeat (first | (with_reducible first | exact HB.out | apply ba | apply bd | apply be | refine below_set ?_ GE303.out) | exact HB.out))); (case aF => exact (fun k_ hk => ⟨Kd.fresh' (Kd.R_lt (zR HO307.out)) k_ hk, Kd.fresh' (Kd.R_lt (zR HO311.out)) k_ hk⟩)); (case aO => exact (by exact zR <| Kd.R_mono HO314.out (fun _ hk => ⟨hk.1.2, hk.2⟩))); (case aS => exact (below_size (zL HB.out))); (case aL => have := LMc15.out; omega); intro v316 w43 ho hb hg hat; rw [← Ny315.out] at ho; have n0_ := am (blk_grown (g := gb303) (o := .cells #[.slice A0_0 l0_0.length c0_0, .slice A0_1 l0_1.length c0_1] 24 (0, 0)) (zB BK303.out) hg (Kd.R_ne HO314.out BK303.out (by decide))); have n1_ := am (Kd.R_after (ok := (fun k_ => some k_ ≠ (v310 : Value).ownBlock)) (by exact zR <| Kd.R_mono HO307.out (fun _ hk => ⟨hk.1.2, hk.2⟩)) hg hat); have n2_ := am (Kd.R_after (ok := (fun k_ => some k_ ≠ (v306 : Value).ownBlock)) (by exact zR <| Kd.R_mono HO311.out (fun _ hk => ⟨hk.1.2, hk.2⟩)) hg hat); have n3_ := am (hb); have n4_ := am (ho); clear BK303 HO307 HO311 HB HO314; have BK303 := n0_; have HO307 := n1_; have HO311 := n2_; have HB := n3_; have HO317 := n4_; clear n0_ n1_ n2_ n3_ n4_; clear ho hb hg hat; obtain ⟨Ao44, co44, eo44⟩ := Kd.R_slice HO317.out; subst eo44) | ((with_reducible refine gate_callee (f := 33) rfl ?_); refine goesL_ (some 41) rfl rfl Try.func33 (by kernel_rfl) rfl #[.slice Ao44 y315.length co44] rfl (by (try simp only [List.map_toArray, List.map_cons, List.map_nil]); first | done | rfl | (simp only [List.length_drop, List.length_take]; rfl)) ?_; (with_reducible refine (clusterlocksref01_Frame.calls k _ _ y315 t318 t319 _ ?side1 ?side2 A16.out).mono ?_); (case side1 => exact zC (Kd.R_reads' HO317.out).2.2); (case side2 => exact (Kd.R_reads' HO317.out).2.1); rintro e w45 ⟨v320, rfl, ho0, hb⟩; refine ⟨_, rfl, ?_⟩; have n0_ := am (Kd.R_elder' (zR HO307.out) (Kd.R_base ho0) hb); have n1_ := am (Kd.R_elder' (zR HO311.out) (Kd.R_base ho0) hb); have n2_ := am (Kd.R_elder' (zR HO317.out) (Kd.R_base ho0) hb); have n3_ := am (Kd.R_lower (Kd.R_new' (Kd.R_new' (Kd.R_new' ho0 (Kd.R_lt (zR HO307.out))) (Kd.R_lt (zR HO311.out))) (Kd.R_lt (zR HO317.out))) (below_size (zL HB.out))); have n4_ := am (blk_below (zB BK303.out) hb); have n5_ := am (below_step (zL HB.out) hb); clear HO307 HO311 HO317 BK303 HB; have HO307 := n0_; have HO311 := n1_; have HO317 := n2_; have HO321 := n3_; have BK303 := n4_; have HB := n5_; clear n0_ n1_ n2_ n3_ n4_ n5_; (try clear hb); (try clear hb2); (try clear hk); (try clear hi); (try clear ho0)))
     go_ret3
     exact ⟨_, by first | rfl | (simp [errW_none, errW_some] <;> rfl) | (simp only [← hji7]; first | rfl | (simp [errW_none, errW_some] <;> rfl)) | (simp [*, errW_none, errW_some] <;> rfl), by exact zR <| Kd.R_mono HO321.out (fun _ hk => trivial), by repeat (first | (with_reducible first | exact HB.out | apply ba | apply bd | apply be | refine below_set ?_ GE303.out) | exact HB.out)⟩
   ·rw [if_neg c15] at H
    exact absurd H (by simp)

end Go.Proofs.Ytjdicbffpbpenaa.Y

-- Laid by a program of this session's (xprint.py, which runs the kit's print.py with patches of its own). Lean checks it.
import Derived.Test.YtefbcebpokoinaaY0
import Derived.Test.YtefbcebpokoinaaY5
import Derived.Test.YtefbcebpokoinaaY9
import Derived.Test.YtefbcebpokoinaaY10
import Derived.Test.YtefbcebpokoinaaY14
import Derived.Test.YtefbcebpokoinaaY15
namespace Go.Proofs.Ytefbcebpokoinaa.Y
open Go.RowKit Go.Proofs.YtefbcebpokoinaaW.PrintWords Go.Proofs.YtefbcebpokoinaaW.PrintLast Go.Proofs.YtefbcebpokoinaaW.PrintMore
attribute [local go_sem] max2_int min2_int max_two min_two max_three min_three max_four min_four   -- for this text's walks alone
set_option linter.unusedVariables false
set_option linter.unusedSimpArgs false

/-! ### clusterlockslaw08_FormulaMonotone: function 5 -/
def clusterlockslaw08_FormulaMonotone.l0 : Nat → List Bool → List Bool → Int → List Bool → List Bool → Int → Int → ByteArray → Int → Int → List (S28) → Option (Bool)
 | 0, _, _, _, _, _, _, _, _, _, _, _ => none
 | k + 1, x1, x2, x9, x10, x11, x12, x403000, x403001, x403002, x403003, x403004 => if x12 < x9 then (if x12 < (x1.length : Int) then (if 0 ≤ x12 then (if rdOf false x1 x12 = true then (if x12 < (x10.length : Int) then (if x12 < (x11.length : Int) then (clusterlockslaw08_FormulaMonotone.l0 k x1 x2 x9 (x10.set (x12 : Int).toNat true) (x11.set (x12 : Int).toNat true) (wrap64 (x12 + 1)) x403000 x403001 x403002 x403003 x403004) else (none)) else (none)) else (if x12 < (x2.length : Int) then (if x12 < (x10.length : Int) then (if x12 < (x11.length : Int) then (clusterlockslaw08_FormulaMonotone.l0 k x1 x2 x9 (x10.set (x12 : Int).toNat (rdOf false x2 x12)) (x11.set (x12 : Int).toNat true) (wrap64 (x12 + 1)) x403000 x403001 x403002 x403003 x403004) else (none)) else (none)) else (if x12 < (x10.length : Int) then (if x12 < (x11.length : Int) then (clusterlockslaw08_FormulaMonotone.l0 k x1 x2 x9 (x10.set (x12 : Int).toNat false) (x11.set (x12 : Int).toNat true) (wrap64 (x12 + 1)) x403000 x403001 x403002 x403003 x403004) else (none)) else (none)))) else (none)) else (if x12 < (x2.length : Int) then (if 0 ≤ x12 then (if x12 < (x10.length : Int) then (if x12 < (x11.length : Int) then (clusterlockslaw08_FormulaMonotone.l0 k x1 x2 x9 (x10.set (x12 : Int).toNat (rdOf false x2 x12)) (x11.set (x12 : Int).toNat true) (wrap64 (x12 + 1)) x403000 x403001 x403002 x403003 x403004) else (none)) else (none)) else (none)) else (if 0 ≤ x12 then (if x12 < (x10.length : Int) then (if x12 < (x11.length : Int) then (clusterlockslaw08_FormulaMonotone.l0 k x1 x2 x9 (x10.set (x12 : Int).toNat false) (x11.set (x12 : Int).toNat true) (wrap64 (x12 + 1)) x403000 x403001 x403002 x403003 x403004) else (none)) else (none)) else (none)))) else ((clusterlockslaw08_awake.f k).bind fun t425 => (if t425 = true then (if x9 > 0 then ((formula_Holds.f k x403000 x403001 x403002 x403003 x403004 x1).bind fun t426 => (if t426 = true then ((formula_Holds.f k x403000 x403001 x403002 x403003 x403004 x10).bind fun t427 => (if t427 = true then ((formula_Holds.f k x403000 x403001 x403002 x403003 x403004 x11).bind fun t428 => (if t428 = true then ((formula_Holds.f k x403000 x403001 x403002 x403003 x403004 ([] : List Bool)).bind fun t429 => (some (!t429))) else (none))) else (none))) else ((formula_Holds.f k x403000 x403001 x403002 x403003 x403004 x11).bind fun t430 => (if t430 = true then ((formula_Holds.f k x403000 x403001 x403002 x403003 x403004 ([] : List Bool)).bind fun t431 => (some (!t431))) else (none))))) else (none)) else (none)))
def clusterlockslaw08_FormulaMonotone.f (k : Nat) (l0 : List Int) (l1 : List Bool) (l2 : List Bool) : Option (Bool) := (clusterlocksmill_Light.f l0).bind fun t387 => (if t387 = true then ((clusterlocksmill_Catalog.f k l0 0).bind fun bt390 => ((clusterlocksmill_Expr.f k l0 bt390.2 bt390.1).bind fun bt394 => ((formula_Atoms.f k bt394.1 bt394.2.1 bt394.2.2.1 bt394.2.2.2.1 bt394.2.2.2.2.1).bind fun t403 => (if 0 ≤ (t403.length : Int) then (if ((t403.length : Int) : Int).toNat ≤ 281474976710656 then (clusterlockslaw08_FormulaMonotone.l0 k l1 l2 (t403.length : Int) (List.replicate ((t403.length : Int) : Int).toNat false) (List.replicate ((t403.length : Int) : Int).toNat false) 0 bt394.1 bt394.2.1 bt394.2.2.1 bt394.2.2.2.1 bt394.2.2.2.2.1) else (none)) else (none))))) else ((clusterlockslaw08_awake.f k).bind fun t388 => (some t388)))
theorem clusterlockslaw08_FormulaMonotone.mono_l : ∀ k, (∀ y0 y1 y2 y3 y4 y5 y6 y7 y8 y9 y10, LeO (clusterlockslaw08_FormulaMonotone.l0 k y0 y1 y2 y3 y4 y5 y6 y7 y8 y9 y10) (clusterlockslaw08_FormulaMonotone.l0 (k + 1) y0 y1 y2 y3 y4 y5 y6 y7 y8 y9 y10))
 | 0 => fun _ _ _ _ _ _ _ _ _ _ _ r h => by simp [clusterlockslaw08_FormulaMonotone.l0] at h
 | k + 1 => by
  have ih0 := clusterlockslaw08_FormulaMonotone.mono_l k
  ·intro y0 y1 y2 y3 y4 y5 y6 y7 y8 y9 y10
   unfold clusterlockslaw08_FormulaMonotone.l0
   repeat' first
   | (with_reducible exact ih0 _ _ _ _ _ _ _ _ _ _ _)
   | (with_reducible exact clusterlockslaw08_awake.mono _)
   | (with_reducible exact clusterlocksmill_Catalog.mono _ _ _)
   | (with_reducible exact clusterlocksmill_Expr.mono _ _ _ _)
   | (with_reducible exact formula_Atoms.mono _ _ _ _ _ _)
   | (with_reducible exact formula_Holds.mono _ _ _ _ _ _ _)
   | (with_reducible exact LeO.refl _)
   | (with_reducible exact LeO.none _)
   | (with_reducible refine LeO.ite ?_ ?_)
   | (with_reducible refine LeO.bind ?_ (fun _ => ?_))
   | exact ih0 _ _ _ _ _ _ _ _ _ _ _
   | exact clusterlockslaw08_awake.mono _
   | exact clusterlocksmill_Catalog.mono _ _ _
   | exact clusterlocksmill_Expr.mono _ _ _ _
   | exact formula_Atoms.mono _ _ _ _ _ _
   | exact formula_Holds.mono _ _ _ _ _ _ _
   | exact LeO.none _
   | refine LeO.ite ?_ ?_
   | refine LeO.bind ?_ (fun _ => ?_)
theorem clusterlockslaw08_FormulaMonotone.mono : ∀ a0 a1 a2 k, LeO (clusterlockslaw08_FormulaMonotone.f k a0 a1 a2) (clusterlockslaw08_FormulaMonotone.f (k + 1) a0 a1 a2) := by
 intro a0 a1 a2 k
 have ih0 := clusterlockslaw08_FormulaMonotone.mono_l k
 unfold clusterlockslaw08_FormulaMonotone.f
 repeat' first
   | (with_reducible exact ih0 _ _ _ _ _ _ _ _ _ _ _)
   | (with_reducible exact clusterlockslaw08_awake.mono _)
   | (with_reducible exact clusterlocksmill_Catalog.mono _ _ _)
   | (with_reducible exact clusterlocksmill_Expr.mono _ _ _ _)
   | (with_reducible exact formula_Atoms.mono _ _ _ _ _ _)
   | (with_reducible exact formula_Holds.mono _ _ _ _ _ _ _)
   | (with_reducible exact LeO.refl _)
   | (with_reducible exact LeO.none _)
   | (with_reducible refine LeO.ite ?_ ?_)
   | (with_reducible refine LeO.bind ?_ (fun _ => ?_))
   | exact ih0 _ _ _ _ _ _ _ _ _ _ _
   | exact clusterlockslaw08_awake.mono _
   | exact clusterlocksmill_Catalog.mono _ _ _
   | exact clusterlocksmill_Expr.mono _ _ _ _
   | exact formula_Atoms.mono _ _ _ _ _ _
   | exact formula_Holds.mono _ _ _ _ _ _ _
   | exact LeO.none _
   | refine LeO.ite ?_ ?_
   | refine LeO.bind ?_ (fun _ => ?_)
set_option maxHeartbeats 8000000 in
set_option maxRecDepth 100000 in
theorem clusterlockslaw08_FormulaMonotone.calls (k : Nat) (A0 : Option Addr) (c0 : Nat) (l0 : List Int) (A1 : Option Addr) (c1 : Nat) (l1 : List Bool) (A2 : Option Addr) (c2 : Nat) (l2 : List Bool) (r : Bool) (w : World) (hr0 : Kd.C (Kd.int .i64) w A0 l0.length l0) (hc0 : l0.length ≤ c0) (hr1 : Kd.C Kd.bool w A1 l1.length l1) (hc1 : l1.length ≤ c1) (hr2 : Kd.C Kd.bool w A2 l2.length l2) (hc2 : l2.length ≤ c2) (h : clusterlockslaw08_FormulaMonotone.f k l0 l1 l2 = some r) :
  Calls Try.prog 5 #[.slice A0 l0.length c0, .slice A1 l1.length c1, .slice A2 l2.length c2] w fun e w' => e = .returned (.bool r) ∧ Below w.heap.size w w' := by
 have hu39 := Try.underlying39
 have hu28 := Try.underlying28
 have HR0 := Aside0.mk hr0
 have HC0 := Aside0.mk hc0
 clear hr0 hc0
 have HR1 := Aside0.mk hr1
 have HC1 := Aside0.mk hc1
 clear hr1 hc1
 have HR2 := Aside0.mk hr2
 have HC2 := Aside0.mk hc2
 clear hr2 hc2
 have HB := am (Below.refl w.heap.size w)
 have H : ((clusterlocksmill_Light.f l0).bind fun t387 => (if t387 = true then ((clusterlocksmill_Catalog.f k l0 0).bind fun bt390 => ((clusterlocksmill_Expr.f k l0 bt390.2 bt390.1).bind fun bt394 => ((formula_Atoms.f k bt394.1 bt394.2.1 bt394.2.2.1 bt394.2.2.2.1 bt394.2.2.2.2.1).bind fun t403 => (if 0 ≤ (t403.length : Int) then (if ((t403.length : Int) : Int).toNat ≤ 281474976710656 then (clusterlockslaw08_FormulaMonotone.l0 k l1 l2 (t403.length : Int) (List.replicate ((t403.length : Int) : Int).toNat false) (List.replicate ((t403.length : Int) : Int).toNat false) 0 bt394.1 bt394.2.1 bt394.2.2.1 bt394.2.2.2.1 bt394.2.2.2.2.1) else (none)) else (none))))) else ((clusterlockslaw08_awake.f k).bind fun t388 => (some t388)))) = some r := h
 clear h
 replace H := Option.bind_eq_some_iff.mp H
 obtain ⟨t387, A40, H⟩ := H
 replace H : (if t387 = true then ((clusterlocksmill_Catalog.f k l0 0).bind fun bt390 => ((clusterlocksmill_Expr.f k l0 bt390.2 bt390.1).bind fun bt394 => ((formula_Atoms.f k bt394.1 bt394.2.1 bt394.2.2.1 bt394.2.2.2.1 bt394.2.2.2.2.1).bind fun t403 => (if 0 ≤ (t403.length : Int) then (if ((t403.length : Int) : Int).toNat ≤ 281474976710656 then (clusterlockslaw08_FormulaMonotone.l0 k l1 l2 (t403.length : Int) (List.replicate ((t403.length : Int) : Int).toNat false) (List.replicate ((t403.length : Int) : Int).toNat false) 0 bt394.1 bt394.2.1 bt394.2.2.1 bt394.2.2.2.1 bt394.2.2.2.2.1) else (none)) else (none))))) else ((clusterlockslaw08_awake.f k).bind fun t388 => (some t388))) = some r := H
 have A4 := Aside0.mk A40
 clear A40
 by_cases c5 : t387 = true
 ·subst c5
  have H1 : ((clusterlocksmill_Catalog.f k l0 0).bind fun bt390 => ((clusterlocksmill_Expr.f k l0 bt390.2 bt390.1).bind fun bt394 => ((formula_Atoms.f k bt394.1 bt394.2.1 bt394.2.2.1 bt394.2.2.2.1 bt394.2.2.2.2.1).bind fun t403 => (if 0 ≤ (t403.length : Int) then (if ((t403.length : Int) : Int).toNat ≤ 281474976710656 then (clusterlockslaw08_FormulaMonotone.l0 k l1 l2 (t403.length : Int) (List.replicate ((t403.length : Int) : Int).toNat false) (List.replicate ((t403.length : Int) : Int).toNat false) 0 bt394.1 bt394.2.1 bt394.2.2.1 bt394.2.2.2.1 bt394.2.2.2.2.1) else (none)) else (none))))) = some r := by rw [if_pos rfl] at H; exact H
  clear H
  have H := H1
  clear H1
  replace H := Option.bind_eq_some_iff.mp H
  obtain ⟨⟨t390, t393⟩, A60, H⟩ := H
  replace H : ((clusterlocksmill_Expr.f k l0 t393 t390).bind fun bt394 => ((formula_Atoms.f k bt394.1 bt394.2.1 bt394.2.2.1 bt394.2.2.2.1 bt394.2.2.2.2.1).bind fun t403 => (if 0 ≤ (t403.length : Int) then (if ((t403.length : Int) : Int).toNat ≤ 281474976710656 then (clusterlockslaw08_FormulaMonotone.l0 k l1 l2 (t403.length : Int) (List.replicate ((t403.length : Int) : Int).toNat false) (List.replicate ((t403.length : Int) : Int).toNat false) 0 bt394.1 bt394.2.1 bt394.2.2.1 bt394.2.2.2.1 bt394.2.2.2.2.1) else (none)) else (none)))) = some r := H
  have A6 := Aside0.mk A60
  clear A60
  replace H := Option.bind_eq_some_iff.mp H
  obtain ⟨⟨t394, t395, t396, t397, t398, t401⟩, A70, H⟩ := H
  replace H : ((formula_Atoms.f k t394 t395 t396 t397 t398).bind fun t403 => (if 0 ≤ (t403.length : Int) then (if ((t403.length : Int) : Int).toNat ≤ 281474976710656 then (clusterlockslaw08_FormulaMonotone.l0 k l1 l2 (t403.length : Int) (List.replicate ((t403.length : Int) : Int).toNat false) (List.replicate ((t403.length : Int) : Int).toNat false) 0 t394 t395 t396 t397 t398) else (none)) else (none))) = some r := H
  have A7 := Aside0.mk A70
  clear A70
  replace H := Option.bind_eq_some_iff.mp H
  obtain ⟨t403, A80, H⟩ := H
  replace H : (if 0 ≤ (t403.length : Int) then (if ((t403.length : Int) : Int).toNat ≤ 281474976710656 then (clusterlockslaw08_FormulaMonotone.l0 k l1 l2 (t403.length : Int) (List.replicate ((t403.length : Int) : Int).toNat false) (List.replicate ((t403.length : Int) : Int).toNat false) 0 t394 t395 t396 t397 t398) else (none)) else (none)) = some r := H
  have A8 := Aside0.mk A80
  clear A80
  by_cases c9 : 0 ≤ (t403.length : Int)
  ·rw [if_pos c9] at H
   have c9b0 := eq_true c9
   have c9b1 : decide (0 ≤ (t403.length : Int)) = true := decide_eq_true c9
   clear c9
   by_cases c10 : ((t403.length : Int) : Int).toNat ≤ 281474976710656
   ·rw [if_pos c10] at H
    have c10b0 := eq_true c10
    have c10b1 : decide (((t403.length : Int) : Int).toNat ≤ 281474976710656) = true := decide_eq_true c10
    clear c10
    obtain ⟨y406, hy406⟩ : ∃ y_ : List Bool, y_ = (List.replicate ((t403.length : Int) : Int).toNat false) := ⟨_, rfl⟩
    replace H : (clusterlockslaw08_FormulaMonotone.l0 k l1 l2 (t403.length : Int) y406 (List.replicate ((t403.length : Int) : Int).toNat false) 0 t394 t395 t396 t397 t398) = some r := by first | (rw [hy406]; with_reducible exact H) | (have H2_ := (Option.bind_some _ _).symm.trans H; rw [hy406]; with_reducible exact H2_) | (have H2_ := (Option.bind_some _ _).symm.trans H; with_reducible exact H2_) | with_reducible exact H | (rw [hy406]; exact H) | exact H
    have Ny406 := Aside0.mk hy406
    clear hy406
    obtain ⟨y409, hy409⟩ : ∃ y_ : List Bool, y_ = (List.replicate ((t403.length : Int) : Int).toNat false) := ⟨_, rfl⟩
    replace H : (clusterlockslaw08_FormulaMonotone.l0 k l1 l2 (t403.length : Int) y406 y409 0 t394 t395 t396 t397 t398) = some r := by first | (rw [hy409]; with_reducible exact H) | (have H2_ := (Option.bind_some _ _).symm.trans H; rw [hy409]; with_reducible exact H2_) | (have H2_ := (Option.bind_some _ _).symm.trans H; with_reducible exact H2_) | with_reducible exact H | (rw [hy409]; exact H) | exact H
    have Ny409 := Aside0.mk hy409
    clear hy409
    have H' := Aside0.mk H
    clear H
    go_enter Try.func5, Try.ntmps5
    go_wp2_with (first | ((with_reducible refine gate_callee (f := 19) rfl ?_); refine goesL_ (some 14) rfl rfl Try.func19 (by kernel_rfl) rfl #[.slice A0 l0.length c0] rfl mp1 ?_; (with_reducible refine (clusterlocksmill_Light.calls _ _ l0 true _ ?side1 ?side2 A4.out).mono ?_); (case side1 => exact zC HR0.out); (case side2 => exact HC0.out); rintro e w' ⟨rfl, ⟨nd, rfl⟩⟩; refine ⟨_, rfl, ?_⟩) | ((with_reducible refine gate_dst (N := 19) rfl ?_); (try (refine gate_guard (by rfl) ?_; dsimp only)); refine box_event ?hg (N := 19) ?hd (cs := #[.slice A0 l0.length c0, .int .i64 0]) (t := 39) ?hr ?_; (case hd => rfl); (case hg => rfl); (case hr => first | (go_simp; done) | (go_simp; rfl)); intro gb389 hg w11 hbox hb; have n0_ := am (below_step (zL HB.out) hb); have n1_ := am (zS hg HB.out); have n2_ := am (zS hg HB.out); have n3_ := am ((show IsS39 w _ gb389 l0 0 from ⟨_, _, hbox, (by rw [hg]; exact (below_size (zL HB.out))), HR0.out⟩)); clear HB; have HB := n0_; have GW389 := n1_; have GE389 := n2_; have HI389 := n3_; clear n0_ n1_ n2_ n3_; clear hb hbox hg) | ((with_reducible refine gate_callee (f := 21) rfl ?_); refine goesL_ (some 22) rfl rfl Try.func21 (by kernel_rfl) rfl #[.pointer (some ⟨gb389, 0, none⟩)] rfl mp1 ?_; (with_reducible refine (clusterlocksmill_Catalog.calls k gb389 l0 0 t390 t393 w _ ?side1 ?side2 A6.out).mono ?_); (case side1 => repeat (first | (with_reducible first | exact HI389.out | apply IsS39.alloc | apply IsS39.drewN | apply IsS39.drew | apply IsS39.set_1) | exact HI389.out)); (case side2 => repeat (first | (with_reducible first | exact HB.out | apply ba | apply bd | apply be | refine below_set ?_ (IsS39.ge HI389.out)) | exact HB.out)); rintro e w12 ⟨v391, rfl, ho0, hi, hb, hk⟩; refine ⟨_, rfl, ?_⟩; have n0_ := am (Kd.R_lower ho0 (below_size (by repeat (first | (with_reducible first | exact HB.out | apply ba | apply bd | apply be | refine below_set ?_ (IsS39.ge HI389.out)) | exact HB.out)))); have n1_ := am (hb); have n2_ := am (hi); clear HB HI389; have HO392 := n0_; have HB := n1_; have HI389 := n2_; clear n0_ n1_ n2_; (try clear hb); (try clear hb2); (try clear hk); (try clear hi); (try clear ho0); obtain ⟨Ao13, co13, eo13⟩ := Kd.R_slice HO392.out; subst eo13) | ((with_reducible refine gate_callee (f := 20) rfl ?_); refine goesL_ (some 23) rfl rfl Try.func20 (by kernel_rfl) rfl #[.pointer (some ⟨gb389, 0, none⟩), .slice Ao13 t390.length co13] rfl mp2 ?_; (with_reducible refine (clusterlocksmill_Expr.calls k gb389 l0 t393 _ _ t390 t394 t395 t396 t397 t398 t401 w _ ?side1 ?side2 ?side3 ?side4 A7.out).mono ?_); (case side1 => repeat (first | (with_reducible first | exact HI389.out | apply IsS39.alloc | apply IsS39.drewN | apply IsS39.drew | apply IsS39.set_1) | exact HI389.out)); (case side2 => repeat (first | (with_reducible first | exact HB.out | apply ba | apply bd | apply be | refine below_set ?_ (IsS39.ge HI389.out)) | exact HB.out)); (case side3 => exact Kd.C_foot_own (IsS39.apart (show IsS39 w _ gb389 l0 t393 from by repeat (first | (with_reducible first | exact HI389.out | apply IsS39.alloc | apply IsS39.drewN | apply IsS39.drew | apply IsS39.set_1) | exact HI389.out)) (zR HO392.out) (by decide)) (fun _ h_ => h_.2)); (case side4 => exact (Kd.R_reads' HO392.out).2.1); rintro e w14 ⟨v399, rfl, ho0, hi, hb, hk⟩; refine ⟨_, rfl, ?_⟩; have n0_ := am (Kd.R_mono (Kd.R_keep (IsS39.apart (show IsS39 w _ gb389 l0 t393 from by repeat (first | (with_reducible first | exact HI389.out | apply IsS39.alloc | apply IsS39.drewN | apply IsS39.drew | apply IsS39.set_1) | exact HI389.out)) (zR HO392.out) (by decide)) hk (fun _ h => h.2)) (fun _ h => h.1)); have n1_ := am (Kd.R_lower ho0 (below_size (by repeat (first | (with_reducible first | exact HB.out | apply ba | apply bd | apply be | refine below_set ?_ (IsS39.ge HI389.out)) | exact HB.out)))); have n2_ := am (hb); have n3_ := am (hi); clear HO392 HB HI389; have HO392 := n0_; have HO400 := n1_; have HB := n2_; have HI389 := n3_; clear n0_ n1_ n2_ n3_; (try clear hb); (try clear hb2); (try clear hk); (try clear hi); (try clear ho0)) | ((with_reducible refine gate_dst (N := 8) rfl ?_); (try (refine gate_guard (by rfl) ?_; dsimp only)); refine box_event ?hg (N := 8) ?hd (cs := #[.int .i64 0, .string (⟨#[]⟩ : ByteArray), .int .i64 0, .int .i64 0, .slice none 0 0]) (t := 28) ?hr ?_; (case hd => rfl); (case hg => rfl); (case hr => first | (go_simp; done) | (go_simp; rfl)); intro gb402 hg w15 hbox hb; have n0_ := am (Kd.R_below (zR HO392.out) hb); have n1_ := am (Kd.R_below (Kd.R_elderB (zR HO400.out) gb402 (Nat.le_of_eq hg.symm)) hb); have n2_ := am (IsS39.below (by repeat (first | (with_reducible first | exact HI389.out | apply IsS39.alloc | apply IsS39.drewN | apply IsS39.drew | apply IsS39.set_1) | exact HI389.out)) hb); have n3_ := am (below_step (by repeat (first | (with_reducible first | exact HB.out | apply ba | apply bd | apply be | refine below_set ?_ (IsS39.ge HI389.out)) | exact HB.out)) hb); have n4_ := am (hbox); have n5_ := am ((by rw [hg]; exact (below_size (by repeat (first | (with_reducible first | exact HB.out | apply ba | apply bd | apply be | refine below_set ?_ (IsS39.ge HI389.out)) | exact HB.out))) : w.heap.size ≤ gb402)); have n6_ := am ((by rw [hg]; exact (below_size (by repeat (first | (with_reducible first | exact HB.out | apply ba | apply bd | apply be | refine below_set ?_ (IsS39.ge HI389.out)) | exact HB.out))) : w.heap.size ≤ gb402)); have n7_ := am ((by rw [hg]; exact Nat.ne_of_lt (IsS39.lt (show IsS39 w _ gb389 l0 t401 from by repeat (first | (with_reducible first | exact HI389.out | apply IsS39.alloc | apply IsS39.drewN | apply IsS39.drew | apply IsS39.set_1) | exact HI389.out))) : gb389 ≠ gb402)); have n8_ := am ((by rw [hg]; exact Nat.ne_of_gt (IsS39.lt (show IsS39 w _ gb389 l0 t401 from by repeat (first | (with_reducible first | exact HI389.out | apply IsS39.alloc | apply IsS39.drewN | apply IsS39.drew | apply IsS39.set_1) | exact HI389.out))) : gb402 ≠ gb389)); clear HO392 HO400 HI389 HB; have HO392 := n0_; have HO400 := n1_; have HI389 := n2_; have HB := n3_; have BK402 := n4_; have GW402 := n5_; have GE402 := n6_; have NB389_402 := n7_; have NB402_389 := n8_; clear n0_ n1_ n2_ n3_ n4_ n5_ n6_ n7_ n8_; clear hb hbox hg; have hnb16 := NB402_389.out; have hnc16 := NB389_402.out; obtain ⟨hcz17_0, hcz17_1, hcz17_2, hcz17_3, hcz17_4, hfz17_0, hfz17_1, hfz17_2, hfz17_3, hfz17_4⟩ := b5 BK402.out; obtain ⟨Ao18, co18, eo18⟩ := Kd.R_slice HO400.out; subst eo18) | ((with_reducible refine gate_store (t := 28) (p := 8) rfl ?_); refine store_event (t := 28) (p := 8) (v := ?vo_w19) (w1 := (((((w15.setCell ⟨gb402, 0, none⟩ (.int .i64 t394)).setCell ⟨gb402, 1, none⟩ (.string t395)).setCell ⟨gb402, 2, none⟩ (.int .i64 t396)).setCell ⟨gb402, 3, none⟩ (.int .i64 t397)).setCell ⟨gb402, 4, none⟩ (.slice Ao18 t398.length co18))) ?hg ?ho ?hn ?hr ?_; (case ho => rfl); (case hg => rfl); (case hn => rfl); (case hr => first | (go_simp; done) | (go_simp; rfl)); intro w19 hw; have n0_ : Aside0 (Kd.R k59 59 w19 w.heap.size (fun _ => True) (.slice Ao13 t390.length co13) t390) := ⟨(by rw [hw]; exact (by exact zR <| Kd.R_mono (Kd.R_far (p := ⟨gb402, 4, none⟩) (Kd.R_far (p := ⟨gb402, 3, none⟩) (Kd.R_far (p := ⟨gb402, 2, none⟩) (Kd.R_far (p := ⟨gb402, 1, none⟩) (Kd.R_far (p := ⟨gb402, 0, none⟩) (Kd.R_types HO392.out BK402.out (by decide)) (fun _ hk => hk.2) (.int .i64 t394)) (fun _ hk => hk.2) (.string t395)) (fun _ hk => hk.2) (.int .i64 t396)) (fun _ hk => hk.2) (.int .i64 t397)) (fun _ hk => hk.2) (.slice Ao18 t398.length co18)) (fun _ hk => trivial)))⟩; have n1_ : Aside0 (Kd.R k28 28 w19 w.heap.size (fun k_ => k_ ≠ gb402) (.slice Ao18 t398.length co18) t398) := ⟨(by rw [hw]; exact (by exact zR <| Kd.R_mono (Kd.R_far (p := ⟨gb402, 4, none⟩) (Kd.R_far (p := ⟨gb402, 3, none⟩) (Kd.R_far (p := ⟨gb402, 2, none⟩) (Kd.R_far (p := ⟨gb402, 1, none⟩) (Kd.R_far (p := ⟨gb402, 0, none⟩) (Kd.R_mono HO400.out (fun k_ hk => (⟨hk, hk.2⟩ : _ ∧ k_ ≠ gb402))) (fun _ hk => hk.2) (.int .i64 t394)) (fun _ hk => hk.2) (.string t395)) (fun _ hk => hk.2) (.int .i64 t396)) (fun _ hk => hk.2) (.int .i64 t397)) (fun _ hk => hk.2) (.slice Ao18 t398.length co18)) (fun _ hk => hk.1.2)))⟩; have n2_ : Aside0 (w19.heap[gb402]? = some (.cells #[.int .i64 t394, .string t395, .int .i64 t396, .int .i64 t397, .slice Ao18 t398.length co18] 28 (0, 0))) := ⟨(by rw [hw]; exact (by refine blk_put (cs := #[.int .i64 t394, .string t395, .int .i64 t396, .int .i64 t397, .slice none 0 0]) ?_ 4 _ rfl; refine blk_put (cs := #[.int .i64 t394, .string t395, .int .i64 t396, .int .i64 0, .slice none 0 0]) ?_ 3 _ rfl; refine blk_put (cs := #[.int .i64 t394, .string t395, .int .i64 0, .int .i64 0, .slice none 0 0]) ?_ 2 _ rfl; refine blk_put (cs := #[.int .i64 t394, .string (⟨#[]⟩ : ByteArray), .int .i64 0, .int .i64 0, .slice none 0 0]) ?_ 1 _ rfl; refine blk_put (cs := #[.int .i64 0, .string (⟨#[]⟩ : ByteArray), .int .i64 0, .int .i64 0, .slice none 0 0]) ?_ 0 _ rfl; exact zB <| BK402.out))⟩; have n3_ : Aside0 (IsS39 w w19 gb389 l0 t401) := ⟨(by rw [hw]; exact (by repeat (first | (with_reducible first | exact HI389.out | apply IsS39.alloc | apply IsS39.drewN | apply IsS39.drew | apply IsS39.set_1 | refine IsS39.far ?_ NB389_402.out _) | exact HI389.out)))⟩; have n4_ : Aside0 (Below w.heap.size w w19) := ⟨(by rw [hw]; exact (by repeat (first | (with_reducible first | exact HB.out | apply ba | apply bd | apply be | refine below_set ?_ (IsS39.ge HI389.out) | refine below_set ?_ GE402.out) | exact HB.out)))⟩; clear hw HO392 HO400 BK402 HI389 HB; have HO392 := n0_; have HO400 := n1_; have BK402 := n2_; have HI389 := n3_; have HB := n4_; clear n0_ n1_ n2_ n3_ n4_; obtain ⟨hcz20_0, hcz20_1, hcz20_2, hcz20_3, hcz20_4, hfz20_0, hfz20_1, hfz20_2, hfz20_3, hfz20_4⟩ := b5 BK402.out) | ((with_reducible refine gate_callee (f := 12) rfl ?_); refine goesL_ (some 25) rfl rfl Try.func12 (by kernel_rfl) rfl #[.agg #[.int .i64 t394, .string t395, .int .i64 t396, .int .i64 t397, .slice Ao18 t398.length co18]] rfl mp1 ?_; (with_reducible refine (formula_Atoms.calls k t394 t395 t396 t397 _ _ t398 t403 _ ?side1 ?side2 A8.out).mono ?_); (case side1 => exact zC (Kd.R_reads' HO400.out).2.2); (case side2 => exact (Kd.R_reads' HO400.out).2.1); rintro e w21 ⟨v404, rfl, ho0, hb⟩; refine ⟨_, rfl, ?_⟩; have n0_ := am (Kd.R_below (zR HO392.out) hb); have n1_ := am (Kd.R_below (zR HO400.out) hb); have n2_ := am (Kd.R_lower ho0 (below_size (by repeat (first | (with_reducible first | exact HB.out | apply ba | apply bd | apply be | refine below_set ?_ (IsS39.ge HI389.out) | refine below_set ?_ GE402.out) | exact HB.out)))); have n3_ := am (IsS39.below (by repeat (first | (with_reducible first | exact HI389.out | apply IsS39.alloc | apply IsS39.drewN | apply IsS39.drew | apply IsS39.set_1 | refine IsS39.far ?_ NB389_402.out _) | exact HI389.out)) hb); have n4_ := am (blk_below (zB BK402.out) hb); have n5_ := am (below_step (by repeat (first | (with_reducible first | exact HB.out | apply ba | apply bd | apply be | refine below_set ?_ (IsS39.ge HI389.out) | refine below_set ?_ GE402.out) | exact HB.out)) hb); clear HO392 HO400 HI389 BK402 HB; have HO392 := n0_; have HO400 := n1_; have HO405 := n2_; have HI389 := n3_; have BK402 := n4_; have HB := n5_; clear n0_ n1_ n2_ n3_ n4_ n5_; (try clear hb); (try clear hb2); (try clear hk); (try clear hi); (try clear ho0); obtain ⟨Ao22, co22, eo22⟩ := Kd.R_slice HO405.out; subst eo22) | ((with_reducible refine gate_dst (N := 28) rfl ?_); (try (refine gate_guard (by rfl) ?_; dsimp only)); refine Kd.R_make Kd.bool _ 4 rfl (N := 28) rfl 33 _ _ rfl (t403.length : Int) rfl rfl Try.underlying33 (.bool false) 1 info4 rfl (by decide) (by omega) false (ok := fun _ => True) (okp := fun _ => True) rfl (fun _ hk => hk) trivial (of_decide_eq_true (by first | (with_reducible assumption) | assumption)) (Nat.le_trans (Nat.mul_le_mul_right _ (of_decide_eq_true (by first | (with_reducible assumption) | assumption) : (t403.length : Int).toNat ≤ 281474976710656)) (by omega)) (Below.refl _ _) (Nat.le_refl _) ?_; intro v407 w23 ho24 hb hg_ hnew_; clear hg_ hnew_; (first | rw [← Ny406.out] at ho24 | (simp only [Int.reduceToNat] at ho24; rw [← Ny406.out] at ho24)); have n0_ := am (Kd.R_below (zR HO392.out) hb); have n1_ := am (Kd.R_below (zR HO400.out) hb); have n2_ := am (Kd.R_below (zR HO405.out) hb); have n3_ := am (Kd.R_lower ho24 (below_size (by repeat (first | (with_reducible first | exact HB.out | apply ba | apply bd | apply be | refine below_set ?_ (IsS39.ge HI389.out) | refine below_set ?_ GE402.out) | exact HB.out)))); have n4_ := am (IsS39.below (by repeat (first | (with_reducible first | exact HI389.out | apply IsS39.alloc | apply IsS39.drewN | apply IsS39.drew | apply IsS39.set_1 | refine IsS39.far ?_ NB389_402.out _) | exact HI389.out)) hb); have n5_ := am (blk_below (zB BK402.out) hb); have n6_ := am (below_step (by repeat (first | (with_reducible first | exact HB.out | apply ba | apply bd | apply be | refine below_set ?_ (IsS39.ge HI389.out) | refine below_set ?_ GE402.out) | exact HB.out)) hb); clear HO392 HO400 HO405 HI389 BK402 HB; have HO392 := n0_; have HO400 := n1_; have HO405 := n2_; have HO408 := n3_; have HI389 := n4_; have BK402 := n5_; have HB := n6_; clear n0_ n1_ n2_ n3_ n4_ n5_ n6_; clear hb ho24) | ((with_reducible refine gate_dst (N := 30) rfl ?_); (try (refine gate_guard (by rfl) ?_; dsimp only)); refine Kd.R_make Kd.bool _ 4 rfl (N := 30) rfl 33 _ _ rfl (t403.length : Int) rfl rfl Try.underlying33 (.bool false) 1 info4 rfl (by decide) (by omega) false (ok := fun _ => True) (okp := fun _ => True) rfl (fun _ hk => hk) trivial (of_decide_eq_true (by first | (with_reducible assumption) | assumption)) (Nat.le_trans (Nat.mul_le_mul_right _ (of_decide_eq_true (by first | (with_reducible assumption) | assumption) : (t403.length : Int).toNat ≤ 281474976710656)) (by omega)) (Below.refl _ _) (Nat.le_refl _) ?_; intro v410 w25 ho26 hb hg_ hnew_; clear hg_ hnew_; (first | rw [← Ny409.out] at ho26 | (simp only [Int.reduceToNat] at ho26; rw [← Ny409.out] at ho26)); have n0_ := am (Kd.R_below (zR HO392.out) hb); have n1_ := am (Kd.R_below (zR HO400.out) hb); have n2_ := am (Kd.R_below (zR HO405.out) hb); have n3_ := am (Kd.R_elder' (zR HO408.out) (Kd.R_base ho26) hb); have n4_ := am (Kd.R_lower (Kd.R_new' ho26 (Kd.R_lt (zR HO408.out))) (below_size (by repeat (first | (with_reducible first | exact HB.out | apply ba | apply bd | apply be | refine below_set ?_ (IsS39.ge HI389.out) | refine below_set ?_ GE402.out) | exact HB.out)))); have n5_ := am (IsS39.below (by repeat (first | (with_reducible first | exact HI389.out | apply IsS39.alloc | apply IsS39.drewN | apply IsS39.drew | apply IsS39.set_1 | refine IsS39.far ?_ NB389_402.out _) | exact HI389.out)) hb); have n6_ := am (blk_below (zB BK402.out) hb); have n7_ := am (below_step (by repeat (first | (with_reducible first | exact HB.out | apply ba | apply bd | apply be | refine below_set ?_ (IsS39.ge HI389.out) | refine below_set ?_ GE402.out) | exact HB.out)) hb); clear HO392 HO400 HO405 HO408 HI389 BK402 HB; have HO392 := n0_; have HO400 := n1_; have HO405 := n2_; have HO408 := n3_; have HO411 := n4_; have HI389 := n5_; have BK402 := n6_; have HB := n7_; clear n0_ n1_ n2_ n3_ n4_ n5_ n6_ n7_; clear hb ho26))
    go_loopg [12] k (fun kq v12 w' => ∃ (x10_1 : List Bool) (x11_1 : List Bool) (x12_1 : Int), v12 = .int .i64 x12_1 ∧ Aside0 (clusterlockslaw08_FormulaMonotone.l0 kq l1 l2 (t403.length : Int) x10_1 x11_1 x12_1 t394 t395 t396 t397 t398 = some r) ∧ Aside0 (kq ≤ k) ∧ Aside0 (Kd.R Kd.bool 4 w' w.heap.size (fun k_ => some k_ ≠ (v410 : Value).ownBlock) v407 x10_1) ∧ Aside0 (Kd.R Kd.bool 4 w' w.heap.size (fun k_ => some k_ ≠ (v407 : Value).ownBlock) v410 x11_1) ∧ Aside0 (Kd.R k28 28 w' w.heap.size (fun k_ => k_ ≠ gb402) (.slice Ao18 t398.length co18) t398) ∧ Aside0 (w'.heap[gb402]? = some (.cells #[.int .i64 t394, .string t395, .int .i64 t396, .int .i64 t397, (.slice Ao18 t398.length co18)] 28 (0, 0))) ∧ Aside0 (Below w.heap.size w w'))
    case atStart => exact ⟨(y406), (y409), (0), (by first | rfl | (simp; done) | (simp [*]; done)), H', ⟨Nat.le_refl _⟩, ⟨by exact zR <| Kd.R_mono HO408.out (fun _ hk => hk.2)⟩, ⟨by exact zR <| Kd.R_mono HO411.out (fun _ hk => hk.2)⟩, ⟨by exact zR HO400.out⟩, ⟨by exact zB <| BK402.out⟩, ⟨by repeat (first | (with_reducible first | exact HB.out | apply ba | apply bd | apply be | refine below_set ?_ (IsS39.ge HI389.out) | refine below_set ?_ GE402.out) | exact HB.out)⟩⟩
    case round =>
     clear H'
     try clear c1
     try clear c2
     try clear p2
     try clear c5
     try clear c9
     try clear c9b0
     try clear c9b1
     try clear c10
     try clear c10b0
     try clear c10b1
     try clear c12
     try clear c16
     try clear c19
     try clear c20
     try clear c21
     try clear hcz17_0
     try clear hcz17_1
     try clear hcz17_2
     try clear hcz17_3
     try clear hcz17_4
     try clear hcz20_0
     try clear hcz20_1
     try clear hcz20_2
     try clear hcz20_3
     try clear hcz20_4
     try clear hfz17_0
     try clear hfz17_1
     try clear hfz17_2
     try clear hfz17_3
     try clear hfz17_4
     try clear hfz20_0
     try clear hfz20_1
     try clear hfz20_2
     try clear hfz20_3
     try clear hfz20_4
     obtain ⟨x10_1, x11_1, x12_1, rfl, HA, HK1, HO_10, HO_11, HO_403004, BK402, HB⟩ := hrel
     cases gk with
     | zero => exact absurd HA.out (by simp [clusterlockslaw08_FormulaMonotone.l0])
     | succ k1 =>
      have H := HA.out
      clear HA
      simp only [clusterlockslaw08_FormulaMonotone.l0] at H
      by_cases c27 : x12_1 < (t403.length : Int)
      ·rw [if_pos c27] at H
       have c27b0 : decide (x12_1 < (t403.length : Int)) = true := decide_eq_true c27
       clear c27
       by_cases c28 : x12_1 < (l1.length : Int)
       ·rw [if_pos c28] at H
        have c28b0 : decide (x12_1 < (l1.length : Int)) = true := decide_eq_true c28
        clear c28
        by_cases c29 : 0 ≤ x12_1
        ·rw [if_pos c29] at H
         have c29b0 : decide (0 ≤ x12_1) = true := decide_eq_true c29
         clear c29
         obtain ⟨bq30, hbq30⟩ : ∃ b_ : Bool, b_ = (rdOf false l1 x12_1) := ⟨_, rfl⟩
         replace H : (if bq30 = true then (if x12_1 < (x10_1.length : Int) then (if x12_1 < (x11_1.length : Int) then (clusterlockslaw08_FormulaMonotone.l0 k1 l1 l2 (t403.length : Int) (x10_1.set (x12_1 : Int).toNat true) (x11_1.set (x12_1 : Int).toNat true) (wrap64 (x12_1 + 1)) t394 t395 t396 t397 t398) else (none)) else (none)) else (if x12_1 < (l2.length : Int) then (if x12_1 < (x10_1.length : Int) then (if x12_1 < (x11_1.length : Int) then (clusterlockslaw08_FormulaMonotone.l0 k1 l1 l2 (t403.length : Int) (x10_1.set (x12_1 : Int).toNat (rdOf false l2 x12_1)) (x11_1.set (x12_1 : Int).toNat true) (wrap64 (x12_1 + 1)) t394 t395 t396 t397 t398) else (none)) else (none)) else (if x12_1 < (x10_1.length : Int) then (if x12_1 < (x11_1.length : Int) then (clusterlockslaw08_FormulaMonotone.l0 k1 l1 l2 (t403.length : Int) (x10_1.set (x12_1 : Int).toNat false) (x11_1.set (x12_1 : Int).toNat true) (wrap64 (x12_1 + 1)) t394 t395 t396 t397 t398) else (none)) else (none)))) = some r := by rw [← hbq30] at H; exact H
         have Nbq30 := Aside0.mk hbq30
         clear hbq30
         by_cases c31 : bq30 = true
         ·subst c31
          have H1 : (if x12_1 < (x10_1.length : Int) then (if x12_1 < (x11_1.length : Int) then (clusterlockslaw08_FormulaMonotone.l0 k1 l1 l2 (t403.length : Int) (x10_1.set (x12_1 : Int).toNat true) (x11_1.set (x12_1 : Int).toNat true) (wrap64 (x12_1 + 1)) t394 t395 t396 t397 t398) else (none)) else (none)) = some r := by rw [if_pos rfl] at H; exact H
          clear H
          have H := H1
          clear H1
          by_cases c32 : x12_1 < (x10_1.length : Int)
          ·rw [if_pos c32] at H
           have c32b0 : decide (x12_1 < (x10_1.length : Int)) = true := decide_eq_true c32
           clear c32
           obtain ⟨y413, hy413⟩ : ∃ y_ : List Bool, y_ = (x10_1.set (x12_1 : Int).toNat true) := ⟨_, rfl⟩
           replace H : (if x12_1 < (x11_1.length : Int) then (clusterlockslaw08_FormulaMonotone.l0 k1 l1 l2 (t403.length : Int) y413 (x11_1.set (x12_1 : Int).toNat true) (wrap64 (x12_1 + 1)) t394 t395 t396 t397 t398) else (none)) = some r := by first | (rw [hy413]; with_reducible exact H) | (have H2_ := (Option.bind_some _ _).symm.trans H; rw [hy413]; with_reducible exact H2_) | (have H2_ := (Option.bind_some _ _).symm.trans H; with_reducible exact H2_) | with_reducible exact H | (rw [hy413]; exact H) | exact H
           have Ny413 := Aside0.mk hy413
           clear hy413
           by_cases c34 : x12_1 < (x11_1.length : Int)
           ·rw [if_pos c34] at H
            have c34b0 : decide (x12_1 < (x11_1.length : Int)) = true := decide_eq_true c34
            clear c34
            obtain ⟨y414, hy414⟩ : ∃ y_ : List Bool, y_ = (x11_1.set (x12_1 : Int).toNat true) := ⟨_, rfl⟩
            replace H : (clusterlockslaw08_FormulaMonotone.l0 k1 l1 l2 (t403.length : Int) y413 y414 (wrap64 (x12_1 + 1)) t394 t395 t396 t397 t398) = some r := by first | (rw [hy414]; with_reducible exact H) | (have H2_ := (Option.bind_some _ _).symm.trans H; rw [hy414]; with_reducible exact H2_) | (have H2_ := (Option.bind_some _ _).symm.trans H; with_reducible exact H2_) | with_reducible exact H | (rw [hy414]; exact H) | exact H
            have Ny414 := Aside0.mk hy414
            clear hy414
            have H' := Aside0.mk H
            clear H
            have p412 : 0 ≤ (x12_1 : Int) := of_decide_eq_true (by first | (with_reducible assumption) | assumption)
            have q412 : x12_1 < (l1.length : Int) := of_decide_eq_true (by first | (with_reducible assumption) | assumption)
            obtain ⟨ad412, e412, hx412_0⟩ := Kd.at_bool HR1.out x12_1 p412 q412
            (try rw [← Nbq30.out] at hx412_0)
            cases e412
            replace hx412_0 := (HB.out.cell (World.block_lt_of_cell? w _ hx412_0)).trans hx412_0
            replace p412 := eq_true p412
            replace q412 := eq_true q412
            have p33 : 0 ≤ (x12_1 : Int) := of_decide_eq_true (by first | (with_reducible assumption) | assumption)
            have q33 : (x12_1 : Int) < ((x10_1.length : Int) : Int) := of_decide_eq_true (by first | (with_reducible assumption) | assumption)
            obtain ⟨go33, co33, eo33, gb33, gl33, cl33, HG33⟩ := Kd.R_form HO_10.out (by omega)
            (first | cases eo33 | (injection eo33 with ea_ en_ ec_; (first | subst ea_ | (injection ea_ with ea_; subst ea_)); subst ec_; clear en_))
            have GB33 := Aside0.mk gb33
            have GG33 := Aside0.mk HG33
            clear gb33 gl33 HG33
            obtain ⟨hx33_0, hf33_0⟩ := Kd.R_celln false HO_10.out (x12_1 : Int) p33 q33
            replace p33 := eq_true p33
            replace q33 := eq_true q33
            have HP36 := Kd.R_putg HO_10.out (x12_1 : Int) true
            go_wp2_with (first | ((with_reducible refine gate_store (t := 4) (p := 60) rfl ?_); refine store_event (t := 4) (p := 60) (v := ?vo_w37) (w1 := (wr.setCell ⟨go33, (x12_1 : Int).toNat, none⟩ (.bool true))) ?hg ?ho ?hn ?hr ?_; (case ho => rfl); (case hg => rfl); (case hn => rfl); (case hr => first | (go_simp; done) | (go_simp; rfl)); intro w37 hw; have hg : wr.grownBy w37 (some go33) := (by rw [hw]; exact HP36.2); have hp_ : Kd.R Kd.bool 4 w37 w.heap.size (fun k_ => some k_ ≠ (v410 : Value).ownBlock) (.slice (some ⟨go33, 0, none⟩) x10_1.length co33) y413 := (by rw [hw, Ny413.out]; exact HP36.1); clear HP36; have n0_ := am (hp_); have n1_ := am (Kd.R_after (v := (.slice (some ⟨go33, 0, none⟩) x10_1.length co33)) (v1 := (.slice (some ⟨go33, 0, none⟩) x10_1.length co33)) (ok := (fun _ => True)) (by exact zR <| Kd.R_mono HO_11.out (fun _ hk => ⟨trivial, hk⟩)) hg (.inl rfl)); have n2_ := am (Kd.R_over' (v := (.slice (some ⟨go33, 0, none⟩) x10_1.length co33)) (zR HO_403004.out) (Kd.R_typed HO_10.out) (by decide) hg); have n3_ := am (blk_grown (g := gb402) (o := .cells #[.int .i64 t394, .string t395, .int .i64 t396, .int .i64 t397, .slice Ao18 t398.length co18] 28 (0, 0)) (zB BK402.out) hg (Kd.R_ne HO_10.out BK402.out (by decide))); have n4_ := am ((by rw [hw]; exact below_set (HB.out) GB33.out : Below w.heap.size w w37)); clear HO_10 HO_11 HO_403004 BK402 HB; have HO_10 := n0_; have HO_11 := n1_; have HO_403004 := n2_; have BK402 := n3_; have HB := n4_; clear n0_ n1_ n2_ n3_ n4_; clear hg hw hp_; have p35 : 0 ≤ (x12_1 : Int) := of_decide_eq_true (by first | (with_reducible assumption) | assumption); have q35 : (x12_1 : Int) < ((x11_1.length : Int) : Int) := of_decide_eq_true (by first | (with_reducible assumption) | assumption); obtain ⟨go35, co35, eo35, gb35, gl35, cl35, HG35⟩ := Kd.R_form HO_11.out (by omega); (first | cases eo35 | (injection eo35 with ea_ en_ ec_; (first | subst ea_ | (injection ea_ with ea_; subst ea_)); subst ec_; clear en_)); have GB35 := Aside0.mk gb35; have GG35 := Aside0.mk HG35; clear gb35 gl35 HG35; obtain ⟨hx35_0, hf35_0⟩ := Kd.R_celln false HO_11.out (x12_1 : Int) p35 q35; replace p35 := eq_true p35; replace q35 := eq_true q35; have n_ := am (Kd.R_mono (ok' := (fun k_ => some k_ ≠ (.slice (some ⟨go33, 0, none⟩) x10_1.length co33 : Value).ownBlock)) HO_11.out (fun k_ hk => hk.2)); clear HO_11; have HO_11 := n_; clear n_; obtain ⟨hy38_, hz38_⟩ := Kd.R_celln false HO_11.out (x12_1 : Int) (of_decide_eq_true (by first | (with_reducible assumption) | assumption)) (of_decide_eq_true (by first | (with_reducible assumption) | assumption)); have HP38 := Kd.R_putg HO_11.out (x12_1 : Int) true) | ((with_reducible refine gate_store (t := 4) (p := 63) rfl ?_); refine store_event (t := 4) (p := 63) (v := ?vo_w39) (w1 := (w37.setCell ⟨go35, (x12_1 : Int).toNat, none⟩ (.bool true))) ?hg ?ho ?hn ?hr ?_; (case ho => rfl); (case hg => rfl); (case hn => rfl); (case hr => first | (go_simp; done) | (go_simp; rfl)); intro w39 hw; have hg : w37.grownBy w39 (some go35) := (by rw [hw]; exact HP38.2); have hp_ : Kd.R Kd.bool 4 w39 w.heap.size (fun k_ => some k_ ≠ (.slice (some ⟨go33, 0, none⟩) x10_1.length co33 : Value).ownBlock) (.slice (some ⟨go35, 0, none⟩) x11_1.length co35) y414 := (by rw [hw, Ny414.out]; exact HP38.1); clear HP38; have n0_ := am (Kd.R_after (v := (.slice (some ⟨go35, 0, none⟩) x11_1.length co35)) (v1 := (.slice (some ⟨go35, 0, none⟩) x11_1.length co35)) (ok := (fun _ => True)) (by exact zR <| Kd.R_mono HO_10.out (fun _ hk => ⟨trivial, hk⟩)) hg (.inl rfl)); have n1_ := am (hp_); have n2_ := am (Kd.R_over' (v := (.slice (some ⟨go35, 0, none⟩) x11_1.length co35)) (zR HO_403004.out) (Kd.R_typed HO_11.out) (by decide) hg); have n3_ := am (blk_grown (g := gb402) (o := .cells #[.int .i64 t394, .string t395, .int .i64 t396, .int .i64 t397, .slice Ao18 t398.length co18] 28 (0, 0)) (zB BK402.out) hg (Kd.R_ne HO_11.out BK402.out (by decide))); have n4_ := am ((by rw [hw]; exact below_set (HB.out) GB35.out : Below w.heap.size w w39)); clear HO_10 HO_11 HO_403004 BK402 HB; have HO_10 := n0_; have HO_11 := n1_; have HO_403004 := n2_; have BK402 := n3_; have HB := n4_; clear n0_ n1_ n2_ n3_ n4_; clear hg hw hp_))
            go_roundg k1
            case measure => have := HK1.out; omega
            case rel => exact ⟨(y413), (y414), (wrap64 (x12_1 + 1)), (by first | rfl | (simp; done) | (simp [*]; done)), H', ⟨by have := HK1.out; omega⟩, ⟨by exact zR <| Kd.R_mono HO_10.out (fun _ hk => hk.2)⟩, ⟨by exact zR HO_11.out⟩, ⟨by exact zR HO_403004.out⟩, ⟨by exact zB <| BK402.out⟩, ⟨by repeat (first | (with_reducible first | exact HB.out | apply ba | apply bd | apply be | refine below_set ?_ GE402.out) | exact HB.out)⟩⟩
           ·rw [if_neg c34] at H
            exact absurd H (by simp)
          ·rw [if_neg c32] at H
           exact absurd H (by simp)
         ·replace c31 := Bool.eq_false_iff.mpr c31
          subst c31
          have H1 : (if x12_1 < (l2.length : Int) then (if x12_1 < (x10_1.length : Int) then (if x12_1 < (x11_1.length : Int) then (clusterlockslaw08_FormulaMonotone.l0 k1 l1 l2 (t403.length : Int) (x10_1.set (x12_1 : Int).toNat (rdOf false l2 x12_1)) (x11_1.set (x12_1 : Int).toNat true) (wrap64 (x12_1 + 1)) t394 t395 t396 t397 t398) else (none)) else (none)) else (if x12_1 < (x10_1.length : Int) then (if x12_1 < (x11_1.length : Int) then (clusterlockslaw08_FormulaMonotone.l0 k1 l1 l2 (t403.length : Int) (x10_1.set (x12_1 : Int).toNat false) (x11_1.set (x12_1 : Int).toNat true) (wrap64 (x12_1 + 1)) t394 t395 t396 t397 t398) else (none)) else (none))) = some r := by rw [if_neg (show ¬ (false = true) by decide)] at H; exact H
          clear H
          have H := H1
          clear H1
          by_cases c40 : x12_1 < (l2.length : Int)
          ·rw [if_pos c40] at H
           have c40b0 : decide (x12_1 < (l2.length : Int)) = true := decide_eq_true c40
           clear c40
           by_cases c41 : x12_1 < (x10_1.length : Int)
           ·rw [if_pos c41] at H
            have c41b0 : decide (x12_1 < (x10_1.length : Int)) = true := decide_eq_true c41
            clear c41
            obtain ⟨y416, hy416⟩ : ∃ y_ : List Bool, y_ = (x10_1.set (x12_1 : Int).toNat (rdOf false l2 x12_1)) := ⟨_, rfl⟩
            replace H : (if x12_1 < (x11_1.length : Int) then (clusterlockslaw08_FormulaMonotone.l0 k1 l1 l2 (t403.length : Int) y416 (x11_1.set (x12_1 : Int).toNat true) (wrap64 (x12_1 + 1)) t394 t395 t396 t397 t398) else (none)) = some r := by first | (rw [hy416]; with_reducible exact H) | (have H2_ := (Option.bind_some _ _).symm.trans H; rw [hy416]; with_reducible exact H2_) | (have H2_ := (Option.bind_some _ _).symm.trans H; with_reducible exact H2_) | with_reducible exact H | (rw [hy416]; exact H) | exact H
            have Ny416 := Aside0.mk hy416
            clear hy416
            by_cases c43 : x12_1 < (x11_1.length : Int)
            ·rw [if_pos c43] at H
             have c43b0 : decide (x12_1 < (x11_1.length : Int)) = true := decide_eq_true c43
             clear c43
             obtain ⟨y417, hy417⟩ : ∃ y_ : List Bool, y_ = (x11_1.set (x12_1 : Int).toNat true) := ⟨_, rfl⟩
             replace H : (clusterlockslaw08_FormulaMonotone.l0 k1 l1 l2 (t403.length : Int) y416 y417 (wrap64 (x12_1 + 1)) t394 t395 t396 t397 t398) = some r := by first | (rw [hy417]; with_reducible exact H) | (have H2_ := (Option.bind_some _ _).symm.trans H; rw [hy417]; with_reducible exact H2_) | (have H2_ := (Option.bind_some _ _).symm.trans H; with_reducible exact H2_) | with_reducible exact H | (rw [hy417]; exact H) | exact H
             have Ny417 := Aside0.mk hy417
             clear hy417
             have H' := Aside0.mk H
             clear H
             have p412 : 0 ≤ (x12_1 : Int) := of_decide_eq_true (by first | (with_reducible assumption) | assumption)
             have q412 : x12_1 < (l1.length : Int) := of_decide_eq_true (by first | (with_reducible assumption) | assumption)
             obtain ⟨ad412, e412, hx412_0⟩ := Kd.at_bool HR1.out x12_1 p412 q412
             (try rw [← Nbq30.out] at hx412_0)
             cases e412
             replace hx412_0 := (HB.out.cell (World.block_lt_of_cell? w _ hx412_0)).trans hx412_0
             replace p412 := eq_true p412
             replace q412 := eq_true q412
             have p415 : 0 ≤ (x12_1 : Int) := of_decide_eq_true (by first | (with_reducible assumption) | assumption)
             have q415 : x12_1 < (l2.length : Int) := of_decide_eq_true (by first | (with_reducible assumption) | assumption)
             obtain ⟨ad415, e415, hx415_0⟩ := Kd.at_bool HR2.out x12_1 p415 q415
             (try rw [← Nbq30.out] at hx415_0)
             cases e415
             replace hx415_0 := (HB.out.cell (World.block_lt_of_cell? w _ hx415_0)).trans hx415_0
             replace p415 := eq_true p415
             replace q415 := eq_true q415
             have p42 : 0 ≤ (x12_1 : Int) := of_decide_eq_true (by first | (with_reducible assumption) | assumption)
             have q42 : (x12_1 : Int) < ((x10_1.length : Int) : Int) := of_decide_eq_true (by first | (with_reducible assumption) | assumption)
             obtain ⟨go42, co42, eo42, gb42, gl42, cl42, HG42⟩ := Kd.R_form HO_10.out (by omega)
             (first | cases eo42 | (injection eo42 with ea_ en_ ec_; (first | subst ea_ | (injection ea_ with ea_; subst ea_)); subst ec_; clear en_))
             have GB42 := Aside0.mk gb42
             have GG42 := Aside0.mk HG42
             clear gb42 gl42 HG42
             obtain ⟨hx42_0, hf42_0⟩ := Kd.R_celln false HO_10.out (x12_1 : Int) p42 q42
             replace p42 := eq_true p42
             replace q42 := eq_true q42
             have HP45 := Kd.R_putg HO_10.out (x12_1 : Int) (rdOf false l2 x12_1)
             go_wp2_with (first | ((with_reducible refine gate_store (t := 4) (p := 60) rfl ?_); refine store_event (t := 4) (p := 60) (v := ?vo_w46) (w1 := (wr.setCell ⟨go42, (x12_1 : Int).toNat, none⟩ (.bool (rdOf false l2 x12_1)))) ?hg ?ho ?hn ?hr ?_; (case ho => rfl); (case hg => rfl); (case hn => rfl); (case hr => first | (go_simp; done) | (go_simp; rfl)); intro w46 hw; have hg : wr.grownBy w46 (some go42) := (by rw [hw]; exact HP45.2); have hp_ : Kd.R Kd.bool 4 w46 w.heap.size (fun k_ => some k_ ≠ (v410 : Value).ownBlock) (.slice (some ⟨go42, 0, none⟩) x10_1.length co42) y416 := (by rw [hw, Ny416.out]; exact HP45.1); clear HP45; have n0_ := am (hp_); have n1_ := am (Kd.R_after (v := (.slice (some ⟨go42, 0, none⟩) x10_1.length co42)) (v1 := (.slice (some ⟨go42, 0, none⟩) x10_1.length co42)) (ok := (fun _ => True)) (by exact zR <| Kd.R_mono HO_11.out (fun _ hk => ⟨trivial, hk⟩)) hg (.inl rfl)); have n2_ := am (Kd.R_over' (v := (.slice (some ⟨go42, 0, none⟩) x10_1.length co42)) (zR HO_403004.out) (Kd.R_typed HO_10.out) (by decide) hg); have n3_ := am (blk_grown (g := gb402) (o := .cells #[.int .i64 t394, .string t395, .int .i64 t396, .int .i64 t397, .slice Ao18 t398.length co18] 28 (0, 0)) (zB BK402.out) hg (Kd.R_ne HO_10.out BK402.out (by decide))); have n4_ := am ((by rw [hw]; exact below_set (HB.out) GB42.out : Below w.heap.size w w46)); clear HO_10 HO_11 HO_403004 BK402 HB; have HO_10 := n0_; have HO_11 := n1_; have HO_403004 := n2_; have BK402 := n3_; have HB := n4_; clear n0_ n1_ n2_ n3_ n4_; clear hg hw hp_; have p44 : 0 ≤ (x12_1 : Int) := of_decide_eq_true (by first | (with_reducible assumption) | assumption); have q44 : (x12_1 : Int) < ((x11_1.length : Int) : Int) := of_decide_eq_true (by first | (with_reducible assumption) | assumption); obtain ⟨go44, co44, eo44, gb44, gl44, cl44, HG44⟩ := Kd.R_form HO_11.out (by omega); (first | cases eo44 | (injection eo44 with ea_ en_ ec_; (first | subst ea_ | (injection ea_ with ea_; subst ea_)); subst ec_; clear en_)); have GB44 := Aside0.mk gb44; have GG44 := Aside0.mk HG44; clear gb44 gl44 HG44; obtain ⟨hx44_0, hf44_0⟩ := Kd.R_celln false HO_11.out (x12_1 : Int) p44 q44; replace p44 := eq_true p44; replace q44 := eq_true q44; have n_ := am (Kd.R_mono (ok' := (fun k_ => some k_ ≠ (.slice (some ⟨go42, 0, none⟩) x10_1.length co42 : Value).ownBlock)) HO_11.out (fun k_ hk => hk.2)); clear HO_11; have HO_11 := n_; clear n_; obtain ⟨hy47_, hz47_⟩ := Kd.R_celln false HO_11.out (x12_1 : Int) (of_decide_eq_true (by first | (with_reducible assumption) | assumption)) (of_decide_eq_true (by first | (with_reducible assumption) | assumption)); have HP47 := Kd.R_putg HO_11.out (x12_1 : Int) true) | ((with_reducible refine gate_store (t := 4) (p := 63) rfl ?_); refine store_event (t := 4) (p := 63) (v := ?vo_w48) (w1 := (w46.setCell ⟨go44, (x12_1 : Int).toNat, none⟩ (.bool true))) ?hg ?ho ?hn ?hr ?_; (case ho => rfl); (case hg => rfl); (case hn => rfl); (case hr => first | (go_simp; done) | (go_simp; rfl)); intro w48 hw; have hg : w46.grownBy w48 (some go44) := (by rw [hw]; exact HP47.2); have hp_ : Kd.R Kd.bool 4 w48 w.heap.size (fun k_ => some k_ ≠ (.slice (some ⟨go42, 0, none⟩) x10_1.length co42 : Value).ownBlock) (.slice (some ⟨go44, 0, none⟩) x11_1.length co44) y417 := (by rw [hw, Ny417.out]; exact HP47.1); clear HP47; have n0_ := am (Kd.R_after (v := (.slice (some ⟨go44, 0, none⟩) x11_1.length co44)) (v1 := (.slice (some ⟨go44, 0, none⟩) x11_1.length co44)) (ok := (fun _ => True)) (by exact zR <| Kd.R_mono HO_10.out (fun _ hk => ⟨trivial, hk⟩)) hg (.inl rfl)); have n1_ := am (hp_); have n2_ := am (Kd.R_over' (v := (.slice (some ⟨go44, 0, none⟩) x11_1.length co44)) (zR HO_403004.out) (Kd.R_typed HO_11.out) (by decide) hg); have n3_ := am (blk_grown (g := gb402) (o := .cells #[.int .i64 t394, .string t395, .int .i64 t396, .int .i64 t397, .slice Ao18 t398.length co18] 28 (0, 0)) (zB BK402.out) hg (Kd.R_ne HO_11.out BK402.out (by decide))); have n4_ := am ((by rw [hw]; exact below_set (HB.out) GB44.out : Below w.heap.size w w48)); clear HO_10 HO_11 HO_403004 BK402 HB; have HO_10 := n0_; have HO_11 := n1_; have HO_403004 := n2_; have BK402 := n3_; have HB := n4_; clear n0_ n1_ n2_ n3_ n4_; clear hg hw hp_))
             go_roundg k1
             case measure => have := HK1.out; omega
             case rel => exact ⟨(y416), (y417), (wrap64 (x12_1 + 1)), (by first | rfl | (simp; done) | (simp [*]; done)), H', ⟨by have := HK1.out; omega⟩, ⟨by exact zR <| Kd.R_mono HO_10.out (fun _ hk => hk.2)⟩, ⟨by exact zR HO_11.out⟩, ⟨by exact zR HO_403004.out⟩, ⟨by exact zB <| BK402.out⟩, ⟨by repeat (first | (with_reducible first | exact HB.out | apply ba | apply bd | apply be | refine below_set ?_ GE402.out) | exact HB.out)⟩⟩
            ·rw [if_neg c43] at H
             exact absurd H (by simp)
           ·rw [if_neg c41] at H
            exact absurd H (by simp)
          ·rw [if_neg c40] at H
           have c40b0 : decide (x12_1 < (l2.length : Int)) = false := decide_eq_false c40
           clear c40
           by_cases c49 : x12_1 < (x10_1.length : Int)
           ·rw [if_pos c49] at H
            have c49b0 : decide (x12_1 < (x10_1.length : Int)) = true := decide_eq_true c49
            clear c49
            obtain ⟨y418, hy418⟩ : ∃ y_ : List Bool, y_ = (x10_1.set (x12_1 : Int).toNat false) := ⟨_, rfl⟩
            replace H : (if x12_1 < (x11_1.length : Int) then (clusterlockslaw08_FormulaMonotone.l0 k1 l1 l2 (t403.length : Int) y418 (x11_1.set (x12_1 : Int).toNat true) (wrap64 (x12_1 + 1)) t394 t395 t396 t397 t398) else (none)) = some r := by first | (rw [hy418]; with_reducible exact H) | (have H2_ := (Option.bind_some _ _).symm.trans H; rw [hy418]; with_reducible exact H2_) | (have H2_ := (Option.bind_some _ _).symm.trans H; with_reducible exact H2_) | with_reducible exact H | (rw [hy418]; exact H) | exact H
            have Ny418 := Aside0.mk hy418
            clear hy418
            by_cases c51 : x12_1 < (x11_1.length : Int)
            ·rw [if_pos c51] at H
             have c51b0 : decide (x12_1 < (x11_1.length : Int)) = true := decide_eq_true c51
             clear c51
             obtain ⟨y419, hy419⟩ : ∃ y_ : List Bool, y_ = (x11_1.set (x12_1 : Int).toNat true) := ⟨_, rfl⟩
             replace H : (clusterlockslaw08_FormulaMonotone.l0 k1 l1 l2 (t403.length : Int) y418 y419 (wrap64 (x12_1 + 1)) t394 t395 t396 t397 t398) = some r := by first | (rw [hy419]; with_reducible exact H) | (have H2_ := (Option.bind_some _ _).symm.trans H; rw [hy419]; with_reducible exact H2_) | (have H2_ := (Option.bind_some _ _).symm.trans H; with_reducible exact H2_) | with_reducible exact H | (rw [hy419]; exact H) | exact H
             have Ny419 := Aside0.mk hy419
             clear hy419
             have H' := Aside0.mk H
             clear H
             have p412 : 0 ≤ (x12_1 : Int) := of_decide_eq_true (by first | (with_reducible assumption) | assumption)
             have q412 : x12_1 < (l1.length : Int) := of_decide_eq_true (by first | (with_reducible assumption) | assumption)
             obtain ⟨ad412, e412, hx412_0⟩ := Kd.at_bool HR1.out x12_1 p412 q412
             (try rw [← Nbq30.out] at hx412_0)
             cases e412
             replace hx412_0 := (HB.out.cell (World.block_lt_of_cell? w _ hx412_0)).trans hx412_0
             replace p412 := eq_true p412
             replace q412 := eq_true q412
             have p50 : 0 ≤ (x12_1 : Int) := of_decide_eq_true (by first | (with_reducible assumption) | assumption)
             have q50 : (x12_1 : Int) < ((x10_1.length : Int) : Int) := of_decide_eq_true (by first | (with_reducible assumption) | assumption)
             obtain ⟨go50, co50, eo50, gb50, gl50, cl50, HG50⟩ := Kd.R_form HO_10.out (by omega)
             (first | cases eo50 | (injection eo50 with ea_ en_ ec_; (first | subst ea_ | (injection ea_ with ea_; subst ea_)); subst ec_; clear en_))
             have GB50 := Aside0.mk gb50
             have GG50 := Aside0.mk HG50
             clear gb50 gl50 HG50
             obtain ⟨hx50_0, hf50_0⟩ := Kd.R_celln false HO_10.out (x12_1 : Int) p50 q50
             replace p50 := eq_true p50
             replace q50 := eq_true q50
             have HP53 := Kd.R_putg HO_10.out (x12_1 : Int) false
             go_wp2_with (first | ((with_reducible refine gate_store (t := 4) (p := 60) rfl ?_); refine store_event (t := 4) (p := 60) (v := ?vo_w54) (w1 := (wr.setCell ⟨go50, (x12_1 : Int).toNat, none⟩ (.bool false))) ?hg ?ho ?hn ?hr ?_; (case ho => rfl); (case hg => rfl); (case hn => rfl); (case hr => first | (go_simp; done) | (go_simp; rfl)); intro w54 hw; have hg : wr.grownBy w54 (some go50) := (by rw [hw]; exact HP53.2); have hp_ : Kd.R Kd.bool 4 w54 w.heap.size (fun k_ => some k_ ≠ (v410 : Value).ownBlock) (.slice (some ⟨go50, 0, none⟩) x10_1.length co50) y418 := (by rw [hw, Ny418.out]; exact HP53.1); clear HP53; have n0_ := am (hp_); have n1_ := am (Kd.R_after (v := (.slice (some ⟨go50, 0, none⟩) x10_1.length co50)) (v1 := (.slice (some ⟨go50, 0, none⟩) x10_1.length co50)) (ok := (fun _ => True)) (by exact zR <| Kd.R_mono HO_11.out (fun _ hk => ⟨trivial, hk⟩)) hg (.inl rfl)); have n2_ := am (Kd.R_over' (v := (.slice (some ⟨go50, 0, none⟩) x10_1.length co50)) (zR HO_403004.out) (Kd.R_typed HO_10.out) (by decide) hg); have n3_ := am (blk_grown (g := gb402) (o := .cells #[.int .i64 t394, .string t395, .int .i64 t396, .int .i64 t397, .slice Ao18 t398.length co18] 28 (0, 0)) (zB BK402.out) hg (Kd.R_ne HO_10.out BK402.out (by decide))); have n4_ := am ((by rw [hw]; exact below_set (HB.out) GB50.out : Below w.heap.size w w54)); clear HO_10 HO_11 HO_403004 BK402 HB; have HO_10 := n0_; have HO_11 := n1_; have HO_403004 := n2_; have BK402 := n3_; have HB := n4_; clear n0_ n1_ n2_ n3_ n4_; clear hg hw hp_; have p52 : 0 ≤ (x12_1 : Int) := of_decide_eq_true (by first | (with_reducible assumption) | assumption); have q52 : (x12_1 : Int) < ((x11_1.length : Int) : Int) := of_decide_eq_true (by first | (with_reducible assumption) | assumption); obtain ⟨go52, co52, eo52, gb52, gl52, cl52, HG52⟩ := Kd.R_form HO_11.out (by omega); (first | cases eo52 | (injection eo52 with ea_ en_ ec_; (first | subst ea_ | (injection ea_ with ea_; subst ea_)); subst ec_; clear en_)); have GB52 := Aside0.mk gb52; have GG52 := Aside0.mk HG52; clear gb52 gl52 HG52; obtain ⟨hx52_0, hf52_0⟩ := Kd.R_celln false HO_11.out (x12_1 : Int) p52 q52; replace p52 := eq_true p52; replace q52 := eq_true q52; have n_ := am (Kd.R_mono (ok' := (fun k_ => some k_ ≠ (.slice (some ⟨go50, 0, none⟩) x10_1.length co50 : Value).ownBlock)) HO_11.out (fun k_ hk => hk.2)); clear HO_11; have HO_11 := n_; clear n_; obtain ⟨hy55_, hz55_⟩ := Kd.R_celln false HO_11.out (x12_1 : Int) (of_decide_eq_true (by first | (with_reducible assumption) | assumption)) (of_decide_eq_true (by first | (with_reducible assumption) | assumption)); have HP55 := Kd.R_putg HO_11.out (x12_1 : Int) true) | ((with_reducible refine gate_store (t := 4) (p := 63) rfl ?_); refine store_event (t := 4) (p := 63) (v := ?vo_w56) (w1 := (w54.setCell ⟨go52, (x12_1 : Int).toNat, none⟩ (.bool true))) ?hg ?ho ?hn ?hr ?_; (case ho => rfl); (case hg => rfl); (case hn => rfl); (case hr => first | (go_simp; done) | (go_simp; rfl)); intro w56 hw; have hg : w54.grownBy w56 (some go52) := (by rw [hw]; exact HP55.2); have hp_ : Kd.R Kd.bool 4 w56 w.heap.size (fun k_ => some k_ ≠ (.slice (some ⟨go50, 0, none⟩) x10_1.length co50 : Value).ownBlock) (.slice (some ⟨go52, 0, none⟩) x11_1.length co52) y419 := (by rw [hw, Ny419.out]; exact HP55.1); clear HP55; have n0_ := am (Kd.R_after (v := (.slice (some ⟨go52, 0, none⟩) x11_1.length co52)) (v1 := (.slice (some ⟨go52, 0, none⟩) x11_1.length co52)) (ok := (fun _ => True)) (by exact zR <| Kd.R_mono HO_10.out (fun _ hk => ⟨trivial, hk⟩)) hg (.inl rfl)); have n1_ := am (hp_); have n2_ := am (Kd.R_over' (v := (.slice (some ⟨go52, 0, none⟩) x11_1.length co52)) (zR HO_403004.out) (Kd.R_typed HO_11.out) (by decide) hg); have n3_ := am (blk_grown (g := gb402) (o := .cells #[.int .i64 t394, .string t395, .int .i64 t396, .int .i64 t397, .slice Ao18 t398.length co18] 28 (0, 0)) (zB BK402.out) hg (Kd.R_ne HO_11.out BK402.out (by decide))); have n4_ := am ((by rw [hw]; exact below_set (HB.out) GB52.out : Below w.heap.size w w56)); clear HO_10 HO_11 HO_403004 BK402 HB; have HO_10 := n0_; have HO_11 := n1_; have HO_403004 := n2_; have BK402 := n3_; have HB := n4_; clear n0_ n1_ n2_ n3_ n4_; clear hg hw hp_))
             go_roundg k1
             case measure => have := HK1.out; omega
             case rel => exact ⟨(y418), (y419), (wrap64 (x12_1 + 1)), (by first | rfl | (simp; done) | (simp [*]; done)), H', ⟨by have := HK1.out; omega⟩, ⟨by exact zR <| Kd.R_mono HO_10.out (fun _ hk => hk.2)⟩, ⟨by exact zR HO_11.out⟩, ⟨by exact zR HO_403004.out⟩, ⟨by exact zB <| BK402.out⟩, ⟨by repeat (first | (with_reducible first | exact HB.out | apply ba | apply bd | apply be | refine below_set ?_ GE402.out) | exact HB.out)⟩⟩
            ·rw [if_neg c51] at H
             exact absurd H (by simp)
           ·rw [if_neg c49] at H
            exact absurd H (by simp)
        ·rw [if_neg c29] at H
         exact absurd H (by simp)
       ·rw [if_neg c28] at H
        have c28b0 : decide (x12_1 < (l1.length : Int)) = false := decide_eq_false c28
        clear c28
        by_cases c57 : x12_1 < (l2.length : Int)
        ·rw [if_pos c57] at H
         have c57b0 : decide (x12_1 < (l2.length : Int)) = true := decide_eq_true c57
         clear c57
         by_cases c58 : 0 ≤ x12_1
         ·rw [if_pos c58] at H
          have c58b0 : decide (0 ≤ x12_1) = true := decide_eq_true c58
          clear c58
          by_cases c59 : x12_1 < (x10_1.length : Int)
          ·rw [if_pos c59] at H
           have c59b0 : decide (x12_1 < (x10_1.length : Int)) = true := decide_eq_true c59
           clear c59
           obtain ⟨y421, hy421⟩ : ∃ y_ : List Bool, y_ = (x10_1.set (x12_1 : Int).toNat (rdOf false l2 x12_1)) := ⟨_, rfl⟩
           replace H : (if x12_1 < (x11_1.length : Int) then (clusterlockslaw08_FormulaMonotone.l0 k1 l1 l2 (t403.length : Int) y421 (x11_1.set (x12_1 : Int).toNat true) (wrap64 (x12_1 + 1)) t394 t395 t396 t397 t398) else (none)) = some r := by first | (rw [hy421]; with_reducible exact H) | (have H2_ := (Option.bind_some _ _).symm.trans H; rw [hy421]; with_reducible exact H2_) | (have H2_ := (Option.bind_some _ _).symm.trans H; with_reducible exact H2_) | with_reducible exact H | (rw [hy421]; exact H) | exact H
           have Ny421 := Aside0.mk hy421
           clear hy421
           by_cases c61 : x12_1 < (x11_1.length : Int)
           ·rw [if_pos c61] at H
            have c61b0 : decide (x12_1 < (x11_1.length : Int)) = true := decide_eq_true c61
            clear c61
            obtain ⟨y422, hy422⟩ : ∃ y_ : List Bool, y_ = (x11_1.set (x12_1 : Int).toNat true) := ⟨_, rfl⟩
            replace H : (clusterlockslaw08_FormulaMonotone.l0 k1 l1 l2 (t403.length : Int) y421 y422 (wrap64 (x12_1 + 1)) t394 t395 t396 t397 t398) = some r := by first | (rw [hy422]; with_reducible exact H) | (have H2_ := (Option.bind_some _ _).symm.trans H; rw [hy422]; with_reducible exact H2_) | (have H2_ := (Option.bind_some _ _).symm.trans H; with_reducible exact H2_) | with_reducible exact H | (rw [hy422]; exact H) | exact H
            have Ny422 := Aside0.mk hy422
            clear hy422
            have H' := Aside0.mk H
            clear H
            have p420 : 0 ≤ (x12_1 : Int) := of_decide_eq_true (by first | (with_reducible assumption) | assumption)
            have q420 : x12_1 < (l2.length : Int) := of_decide_eq_true (by first | (with_reducible assumption) | assumption)
            obtain ⟨ad420, e420, hx420_0⟩ := Kd.at_bool HR2.out x12_1 p420 q420
            cases e420
            replace hx420_0 := (HB.out.cell (World.block_lt_of_cell? w _ hx420_0)).trans hx420_0
            replace p420 := eq_true p420
            replace q420 := eq_true q420
            have p60 : 0 ≤ (x12_1 : Int) := of_decide_eq_true (by first | (with_reducible assumption) | assumption)
            have q60 : (x12_1 : Int) < ((x10_1.length : Int) : Int) := of_decide_eq_true (by first | (with_reducible assumption) | assumption)
            obtain ⟨go60, co60, eo60, gb60, gl60, cl60, HG60⟩ := Kd.R_form HO_10.out (by omega)
            (first | cases eo60 | (injection eo60 with ea_ en_ ec_; (first | subst ea_ | (injection ea_ with ea_; subst ea_)); subst ec_; clear en_))
            have GB60 := Aside0.mk gb60
            have GG60 := Aside0.mk HG60
            clear gb60 gl60 HG60
            obtain ⟨hx60_0, hf60_0⟩ := Kd.R_celln false HO_10.out (x12_1 : Int) p60 q60
            replace p60 := eq_true p60
            replace q60 := eq_true q60
            have HP63 := Kd.R_putg HO_10.out (x12_1 : Int) (rdOf false l2 x12_1)
            go_wp2_with (first | ((with_reducible refine gate_store (t := 4) (p := 60) rfl ?_); refine store_event (t := 4) (p := 60) (v := ?vo_w64) (w1 := (wr.setCell ⟨go60, (x12_1 : Int).toNat, none⟩ (.bool (rdOf false l2 x12_1)))) ?hg ?ho ?hn ?hr ?_; (case ho => rfl); (case hg => rfl); (case hn => rfl); (case hr => first | (go_simp; done) | (go_simp; rfl)); intro w64 hw; have hg : wr.grownBy w64 (some go60) := (by rw [hw]; exact HP63.2); have hp_ : Kd.R Kd.bool 4 w64 w.heap.size (fun k_ => some k_ ≠ (v410 : Value).ownBlock) (.slice (some ⟨go60, 0, none⟩) x10_1.length co60) y421 := (by rw [hw, Ny421.out]; exact HP63.1); clear HP63; have n0_ := am (hp_); have n1_ := am (Kd.R_after (v := (.slice (some ⟨go60, 0, none⟩) x10_1.length co60)) (v1 := (.slice (some ⟨go60, 0, none⟩) x10_1.length co60)) (ok := (fun _ => True)) (by exact zR <| Kd.R_mono HO_11.out (fun _ hk => ⟨trivial, hk⟩)) hg (.inl rfl)); have n2_ := am (Kd.R_over' (v := (.slice (some ⟨go60, 0, none⟩) x10_1.length co60)) (zR HO_403004.out) (Kd.R_typed HO_10.out) (by decide) hg); have n3_ := am (blk_grown (g := gb402) (o := .cells #[.int .i64 t394, .string t395, .int .i64 t396, .int .i64 t397, .slice Ao18 t398.length co18] 28 (0, 0)) (zB BK402.out) hg (Kd.R_ne HO_10.out BK402.out (by decide))); have n4_ := am ((by rw [hw]; exact below_set (HB.out) GB60.out : Below w.heap.size w w64)); clear HO_10 HO_11 HO_403004 BK402 HB; have HO_10 := n0_; have HO_11 := n1_; have HO_403004 := n2_; have BK402 := n3_; have HB := n4_; clear n0_ n1_ n2_ n3_ n4_; clear hg hw hp_; have p62 : 0 ≤ (x12_1 : Int) := of_decide_eq_true (by first | (with_reducible assumption) | assumption); have q62 : (x12_1 : Int) < ((x11_1.length : Int) : Int) := of_decide_eq_true (by first | (with_reducible assumption) | assumption); obtain ⟨go62, co62, eo62, gb62, gl62, cl62, HG62⟩ := Kd.R_form HO_11.out (by omega); (first | cases eo62 | (injection eo62 with ea_ en_ ec_; (first | subst ea_ | (injection ea_ with ea_; subst ea_)); subst ec_; clear en_)); have GB62 := Aside0.mk gb62; have GG62 := Aside0.mk HG62; clear gb62 gl62 HG62; obtain ⟨hx62_0, hf62_0⟩ := Kd.R_celln false HO_11.out (x12_1 : Int) p62 q62; replace p62 := eq_true p62; replace q62 := eq_true q62; have n_ := am (Kd.R_mono (ok' := (fun k_ => some k_ ≠ (.slice (some ⟨go60, 0, none⟩) x10_1.length co60 : Value).ownBlock)) HO_11.out (fun k_ hk => hk.2)); clear HO_11; have HO_11 := n_; clear n_; obtain ⟨hy65_, hz65_⟩ := Kd.R_celln false HO_11.out (x12_1 : Int) (of_decide_eq_true (by first | (with_reducible assumption) | assumption)) (of_decide_eq_true (by first | (with_reducible assumption) | assumption)); have HP65 := Kd.R_putg HO_11.out (x12_1 : Int) true) | ((with_reducible refine gate_store (t := 4) (p := 63) rfl ?_); refine store_event (t := 4) (p := 63) (v := ?vo_w66) (w1 := (w64.setCell ⟨go62, (x12_1 : Int).toNat, none⟩ (.bool true))) ?hg ?ho ?hn ?hr ?_; (case ho => rfl); (case hg => rfl); (case hn => rfl); (case hr => first | (go_simp; done) | (go_simp; rfl)); intro w66 hw; have hg : w64.grownBy w66 (some go62) := (by rw [hw]; exact HP65.2); have hp_ : Kd.R Kd.bool 4 w66 w.heap.size (fun k_ => some k_ ≠ (.slice (some ⟨go60, 0, none⟩) x10_1.length co60 : Value).ownBlock) (.slice (some ⟨go62, 0, none⟩) x11_1.length co62) y422 := (by rw [hw, Ny422.out]; exact HP65.1); clear HP65; have n0_ := am (Kd.R_after (v := (.slice (some ⟨go62, 0, none⟩) x11_1.length co62)) (v1 := (.slice (some ⟨go62, 0, none⟩) x11_1.length co62)) (ok := (fun _ => True)) (by exact zR <| Kd.R_mono HO_10.out (fun _ hk => ⟨trivial, hk⟩)) hg (.inl rfl)); have n1_ := am (hp_); have n2_ := am (Kd.R_over' (v := (.slice (some ⟨go62, 0, none⟩) x11_1.length co62)) (zR HO_403004.out) (Kd.R_typed HO_11.out) (by decide) hg); have n3_ := am (blk_grown (g := gb402) (o := .cells #[.int .i64 t394, .string t395, .int .i64 t396, .int .i64 t397, .slice Ao18 t398.length co18] 28 (0, 0)) (zB BK402.out) hg (Kd.R_ne HO_11.out BK402.out (by decide))); have n4_ := am ((by rw [hw]; exact below_set (HB.out) GB62.out : Below w.heap.size w w66)); clear HO_10 HO_11 HO_403004 BK402 HB; have HO_10 := n0_; have HO_11 := n1_; have HO_403004 := n2_; have BK402 := n3_; have HB := n4_; clear n0_ n1_ n2_ n3_ n4_; clear hg hw hp_))
            go_roundg k1
            case measure => have := HK1.out; omega
            case rel => exact ⟨(y421), (y422), (wrap64 (x12_1 + 1)), (by first | rfl | (simp; done) | (simp [*]; done)), H', ⟨by have := HK1.out; omega⟩, ⟨by exact zR <| Kd.R_mono HO_10.out (fun _ hk => hk.2)⟩, ⟨by exact zR HO_11.out⟩, ⟨by exact zR HO_403004.out⟩, ⟨by exact zB <| BK402.out⟩, ⟨by repeat (first | (with_reducible first | exact HB.out | apply ba | apply bd | apply be | refine below_set ?_ GE402.out) | exact HB.out)⟩⟩
           ·rw [if_neg c61] at H
            exact absurd H (by simp)
          ·rw [if_neg c59] at H
           exact absurd H (by simp)
         ·rw [if_neg c58] at H
          exact absurd H (by simp)
        ·rw [if_neg c57] at H
         have c57b0 : decide (x12_1 < (l2.length : Int)) = false := decide_eq_false c57
         clear c57
         by_cases c67 : 0 ≤ x12_1
         ·rw [if_pos c67] at H
          have c67b0 : decide (0 ≤ x12_1) = true := decide_eq_true c67
          clear c67
          by_cases c68 : x12_1 < (x10_1.length : Int)
          ·rw [if_pos c68] at H
           have c68b0 : decide (x12_1 < (x10_1.length : Int)) = true := decide_eq_true c68
           clear c68
           obtain ⟨y423, hy423⟩ : ∃ y_ : List Bool, y_ = (x10_1.set (x12_1 : Int).toNat false) := ⟨_, rfl⟩
           replace H : (if x12_1 < (x11_1.length : Int) then (clusterlockslaw08_FormulaMonotone.l0 k1 l1 l2 (t403.length : Int) y423 (x11_1.set (x12_1 : Int).toNat true) (wrap64 (x12_1 + 1)) t394 t395 t396 t397 t398) else (none)) = some r := by first | (rw [hy423]; with_reducible exact H) | (have H2_ := (Option.bind_some _ _).symm.trans H; rw [hy423]; with_reducible exact H2_) | (have H2_ := (Option.bind_some _ _).symm.trans H; with_reducible exact H2_) | with_reducible exact H | (rw [hy423]; exact H) | exact H
           have Ny423 := Aside0.mk hy423
           clear hy423
           by_cases c70 : x12_1 < (x11_1.length : Int)
           ·rw [if_pos c70] at H
            have c70b0 : decide (x12_1 < (x11_1.length : Int)) = true := decide_eq_true c70
            clear c70
            obtain ⟨y424, hy424⟩ : ∃ y_ : List Bool, y_ = (x11_1.set (x12_1 : Int).toNat true) := ⟨_, rfl⟩
            replace H : (clusterlockslaw08_FormulaMonotone.l0 k1 l1 l2 (t403.length : Int) y423 y424 (wrap64 (x12_1 + 1)) t394 t395 t396 t397 t398) = some r := by first | (rw [hy424]; with_reducible exact H) | (have H2_ := (Option.bind_some _ _).symm.trans H; rw [hy424]; with_reducible exact H2_) | (have H2_ := (Option.bind_some _ _).symm.trans H; with_reducible exact H2_) | with_reducible exact H | (rw [hy424]; exact H) | exact H
            have Ny424 := Aside0.mk hy424
            clear hy424
            have H' := Aside0.mk H
            clear H
            have p69 : 0 ≤ (x12_1 : Int) := of_decide_eq_true (by first | (with_reducible assumption) | assumption)
            have q69 : (x12_1 : Int) < ((x10_1.length : Int) : Int) := of_decide_eq_true (by first | (with_reducible assumption) | assumption)
            obtain ⟨go69, co69, eo69, gb69, gl69, cl69, HG69⟩ := Kd.R_form HO_10.out (by omega)
            (first | cases eo69 | (injection eo69 with ea_ en_ ec_; (first | subst ea_ | (injection ea_ with ea_; subst ea_)); subst ec_; clear en_))
            have GB69 := Aside0.mk gb69
            have GG69 := Aside0.mk HG69
            clear gb69 gl69 HG69
            obtain ⟨hx69_0, hf69_0⟩ := Kd.R_celln false HO_10.out (x12_1 : Int) p69 q69
            replace p69 := eq_true p69
            replace q69 := eq_true q69
            have HP72 := Kd.R_putg HO_10.out (x12_1 : Int) false
            go_wp2_with (first | ((with_reducible refine gate_store (t := 4) (p := 60) rfl ?_); refine store_event (t := 4) (p := 60) (v := ?vo_w73) (w1 := (wr.setCell ⟨go69, (x12_1 : Int).toNat, none⟩ (.bool false))) ?hg ?ho ?hn ?hr ?_; (case ho => rfl); (case hg => rfl); (case hn => rfl); (case hr => first | (go_simp; done) | (go_simp; rfl)); intro w73 hw; have hg : wr.grownBy w73 (some go69) := (by rw [hw]; exact HP72.2); have hp_ : Kd.R Kd.bool 4 w73 w.heap.size (fun k_ => some k_ ≠ (v410 : Value).ownBlock) (.slice (some ⟨go69, 0, none⟩) x10_1.length co69) y423 := (by rw [hw, Ny423.out]; exact HP72.1); clear HP72; have n0_ := am (hp_); have n1_ := am (Kd.R_after (v := (.slice (some ⟨go69, 0, none⟩) x10_1.length co69)) (v1 := (.slice (some ⟨go69, 0, none⟩) x10_1.length co69)) (ok := (fun _ => True)) (by exact zR <| Kd.R_mono HO_11.out (fun _ hk => ⟨trivial, hk⟩)) hg (.inl rfl)); have n2_ := am (Kd.R_over' (v := (.slice (some ⟨go69, 0, none⟩) x10_1.length co69)) (zR HO_403004.out) (Kd.R_typed HO_10.out) (by decide) hg); have n3_ := am (blk_grown (g := gb402) (o := .cells #[.int .i64 t394, .string t395, .int .i64 t396, .int .i64 t397, .slice Ao18 t398.length co18] 28 (0, 0)) (zB BK402.out) hg (Kd.R_ne HO_10.out BK402.out (by decide))); have n4_ := am ((by rw [hw]; exact below_set (HB.out) GB69.out : Below w.heap.size w w73)); clear HO_10 HO_11 HO_403004 BK402 HB; have HO_10 := n0_; have HO_11 := n1_; have HO_403004 := n2_; have BK402 := n3_; have HB := n4_; clear n0_ n1_ n2_ n3_ n4_; clear hg hw hp_; have p71 : 0 ≤ (x12_1 : Int) := of_decide_eq_true (by first | (with_reducible assumption) | assumption); have q71 : (x12_1 : Int) < ((x11_1.length : Int) : Int) := of_decide_eq_true (by first | (with_reducible assumption) | assumption); obtain ⟨go71, co71, eo71, gb71, gl71, cl71, HG71⟩ := Kd.R_form HO_11.out (by omega); (first | cases eo71 | (injection eo71 with ea_ en_ ec_; (first | subst ea_ | (injection ea_ with ea_; subst ea_)); subst ec_; clear en_)); have GB71 := Aside0.mk gb71; have GG71 := Aside0.mk HG71; clear gb71 gl71 HG71; obtain ⟨hx71_0, hf71_0⟩ := Kd.R_celln false HO_11.out (x12_1 : Int) p71 q71; replace p71 := eq_true p71; replace q71 := eq_true q71; have n_ := am (Kd.R_mono (ok' := (fun k_ => some k_ ≠ (.slice (some ⟨go69, 0, none⟩) x10_1.length co69 : Value).ownBlock)) HO_11.out (fun k_ hk => hk.2)); clear HO_11; have HO_11 := n_; clear n_; obtain ⟨hy74_, hz74_⟩ := Kd.R_celln false HO_11.out (x12_1 : Int) (of_decide_eq_true (by first | (with_reducible assumption) | assumption)) (of_decide_eq_true (by first | (with_reducible assumption) | assumption)); have HP74 := Kd.R_putg HO_11.out (x12_1 : Int) true) | ((with_reducible refine gate_store (t := 4) (p := 63) rfl ?_); refine store_event (t := 4) (p := 63) (v := ?vo_w75) (w1 := (w73.setCell ⟨go71, (x12_1 : Int).toNat, none⟩ (.bool true))) ?hg ?ho ?hn ?hr ?_; (case ho => rfl); (case hg => rfl); (case hn => rfl); (case hr => first | (go_simp; done) | (go_simp; rfl)); intro w75 hw; have hg : w73.grownBy w75 (some go71) := (by rw [hw]; exact HP74.2); have hp_ : Kd.R Kd.bool 4 w75 w.heap.size (fun k_ => some k_ ≠ (.slice (some ⟨go69, 0, none⟩) x10_1.length co69 : Value).ownBlock) (.slice (some ⟨go71, 0, none⟩) x11_1.length co71) y424 := (by rw [hw, Ny424.out]; exact HP74.1); clear HP74; have n0_ := am (Kd.R_after (v := (.slice (some ⟨go71, 0, none⟩) x11_1.length co71)) (v1 := (.slice (some ⟨go71, 0, none⟩) x11_1.length co71)) (ok := (fun _ => True)) (by exact zR <| Kd.R_mono HO_10.out (fun _ hk => ⟨trivial, hk⟩)) hg (.inl rfl)); have n1_ := am (hp_); have n2_ := am (Kd.R_over' (v := (.slice (some ⟨go71, 0, none⟩) x11_1.length co71)) (zR HO_403004.out) (Kd.R_typed HO_11.out) (by decide) hg); have n3_ := am (blk_grown (g := gb402) (o := .cells #[.int .i64 t394, .string t395, .int .i64 t396, .int .i64 t397, .slice Ao18 t398.length co18] 28 (0, 0)) (zB BK402.out) hg (Kd.R_ne HO_11.out BK402.out (by decide))); have n4_ := am ((by rw [hw]; exact below_set (HB.out) GB71.out : Below w.heap.size w w75)); clear HO_10 HO_11 HO_403004 BK402 HB; have HO_10 := n0_; have HO_11 := n1_; have HO_403004 := n2_; have BK402 := n3_; have HB := n4_; clear n0_ n1_ n2_ n3_ n4_; clear hg hw hp_))
            go_roundg k1
            case measure => have := HK1.out; omega
            case rel => exact ⟨(y423), (y424), (wrap64 (x12_1 + 1)), (by first | rfl | (simp; done) | (simp [*]; done)), H', ⟨by have := HK1.out; omega⟩, ⟨by exact zR <| Kd.R_mono HO_10.out (fun _ hk => hk.2)⟩, ⟨by exact zR HO_11.out⟩, ⟨by exact zR HO_403004.out⟩, ⟨by exact zB <| BK402.out⟩, ⟨by repeat (first | (with_reducible first | exact HB.out | apply ba | apply bd | apply be | refine below_set ?_ GE402.out) | exact HB.out)⟩⟩
           ·rw [if_neg c70] at H
            exact absurd H (by simp)
          ·rw [if_neg c68] at H
           exact absurd H (by simp)
         ·rw [if_neg c67] at H
          exact absurd H (by simp)
      ·rw [if_neg c27] at H
       have c27b0 : decide (x12_1 < (t403.length : Int)) = false := decide_eq_false c27
       clear c27
       replace H := Option.bind_eq_some_iff.mp H
       obtain ⟨t425, A760, H⟩ := H
       replace H : (if t425 = true then (if (t403.length : Int) > 0 then ((formula_Holds.f k1 t394 t395 t396 t397 t398 l1).bind fun t426 => (if t426 = true then ((formula_Holds.f k1 t394 t395 t396 t397 t398 x10_1).bind fun t427 => (if t427 = true then ((formula_Holds.f k1 t394 t395 t396 t397 t398 x11_1).bind fun t428 => (if t428 = true then ((formula_Holds.f k1 t394 t395 t396 t397 t398 ([] : List Bool)).bind fun t429 => (some (!t429))) else (none))) else (none))) else ((formula_Holds.f k1 t394 t395 t396 t397 t398 x11_1).bind fun t430 => (if t430 = true then ((formula_Holds.f k1 t394 t395 t396 t397 t398 ([] : List Bool)).bind fun t431 => (some (!t431))) else (none))))) else (none)) else (none)) = some r := H
       have A76 := Aside0.mk A760
       clear A760
       by_cases c77 : t425 = true
       ·subst c77
        have H1 : (if (t403.length : Int) > 0 then ((formula_Holds.f k1 t394 t395 t396 t397 t398 l1).bind fun t426 => (if t426 = true then ((formula_Holds.f k1 t394 t395 t396 t397 t398 x10_1).bind fun t427 => (if t427 = true then ((formula_Holds.f k1 t394 t395 t396 t397 t398 x11_1).bind fun t428 => (if t428 = true then ((formula_Holds.f k1 t394 t395 t396 t397 t398 ([] : List Bool)).bind fun t429 => (some (!t429))) else (none))) else (none))) else ((formula_Holds.f k1 t394 t395 t396 t397 t398 x11_1).bind fun t430 => (if t430 = true then ((formula_Holds.f k1 t394 t395 t396 t397 t398 ([] : List Bool)).bind fun t431 => (some (!t431))) else (none))))) else (none)) = some r := by rw [if_pos rfl] at H; exact H
        clear H
        have H := H1
        clear H1
        by_cases c78 : (t403.length : Int) > 0
        ·rw [if_pos c78] at H
         have c78b0 : decide (0 < (t403.length : Int)) = true := decide_eq_true c78
         have c78b1 : decide (0 < t403.length) = true := decide_eq_true (by omega)
         clear c78
         replace H := Option.bind_eq_some_iff.mp H
         obtain ⟨t426, A790, H⟩ := H
         replace H : (if t426 = true then ((formula_Holds.f k1 t394 t395 t396 t397 t398 x10_1).bind fun t427 => (if t427 = true then ((formula_Holds.f k1 t394 t395 t396 t397 t398 x11_1).bind fun t428 => (if t428 = true then ((formula_Holds.f k1 t394 t395 t396 t397 t398 ([] : List Bool)).bind fun t429 => (some (!t429))) else (none))) else (none))) else ((formula_Holds.f k1 t394 t395 t396 t397 t398 x11_1).bind fun t430 => (if t430 = true then ((formula_Holds.f k1 t394 t395 t396 t397 t398 ([] : List Bool)).bind fun t431 => (some (!t431))) else (none)))) = some r := H
         have A79 := Aside0.mk A790
         clear A790
         by_cases c80 : t426 = true
         ·subst c80
          have H1 : ((formula_Holds.f k1 t394 t395 t396 t397 t398 x10_1).bind fun t427 => (if t427 = true then ((formula_Holds.f k1 t394 t395 t396 t397 t398 x11_1).bind fun t428 => (if t428 = true then ((formula_Holds.f k1 t394 t395 t396 t397 t398 ([] : List Bool)).bind fun t429 => (some (!t429))) else (none))) else (none))) = some r := by rw [if_pos rfl] at H; exact H
          clear H
          have H := H1
          clear H1
          replace H := Option.bind_eq_some_iff.mp H
          obtain ⟨t427, A810, H⟩ := H
          replace H : (if t427 = true then ((formula_Holds.f k1 t394 t395 t396 t397 t398 x11_1).bind fun t428 => (if t428 = true then ((formula_Holds.f k1 t394 t395 t396 t397 t398 ([] : List Bool)).bind fun t429 => (some (!t429))) else (none))) else (none)) = some r := H
          have A81 := Aside0.mk A810
          clear A810
          by_cases c82 : t427 = true
          ·subst c82
           have H1 : ((formula_Holds.f k1 t394 t395 t396 t397 t398 x11_1).bind fun t428 => (if t428 = true then ((formula_Holds.f k1 t394 t395 t396 t397 t398 ([] : List Bool)).bind fun t429 => (some (!t429))) else (none))) = some r := by rw [if_pos rfl] at H; exact H
           clear H
           have H := H1
           clear H1
           replace H := Option.bind_eq_some_iff.mp H
           obtain ⟨t428, A830, H⟩ := H
           replace H : (if t428 = true then ((formula_Holds.f k1 t394 t395 t396 t397 t398 ([] : List Bool)).bind fun t429 => (some (!t429))) else (none)) = some r := H
           have A83 := Aside0.mk A830
           clear A830
           by_cases c84 : t428 = true
           ·subst c84
            have H1 : ((formula_Holds.f k1 t394 t395 t396 t397 t398 ([] : List Bool)).bind fun t429 => (some (!t429))) = some r := by rw [if_pos rfl] at H; exact H
            clear H
            have H := H1
            clear H1
            replace H := Option.bind_eq_some_iff.mp H
            obtain ⟨t429, A850, H⟩ := H
            replace H : (some (!t429)) = some r := H
            have A85 := Aside0.mk A850
            clear A850
            obtain rfl := Option.some.inj H
            go_wp2_with (first | ((with_reducible refine gate_callee (f := 14) rfl ?_); refine goesL_ (some 64) rfl rfl Try.func14 (by kernel_rfl) rfl #[] rfl mp0 ?_; (with_reducible refine (clusterlockslaw08_awake.calls k1  true _ A76.out).mono ?_); rintro e w86 ⟨rfl, hb⟩; refine ⟨_, rfl, ?_⟩; have n0_ := am (Kd.R_below (zR HO_10.out) hb); have n1_ := am (Kd.R_below (zR HO_11.out) hb); have n2_ := am (Kd.R_below (zR HO_403004.out) hb); have n3_ := am (blk_below (zB BK402.out) hb); have n4_ := am (below_step (zL HB.out) hb); clear HO_10 HO_11 HO_403004 BK402 HB; have HO_10 := n0_; have HO_11 := n1_; have HO_403004 := n2_; have BK402 := n3_; have HB := n4_; clear n0_ n1_ n2_ n3_ n4_; (try clear hb); (try clear hb2); (try clear hk); (try clear hi); obtain ⟨hcz87_0, hcz87_1, hcz87_2, hcz87_3, hcz87_4, hfz87_0, hfz87_1, hfz87_2, hfz87_3, hfz87_4⟩ := b5 BK402.out) | (go_at_call 15; (with_reducible refine (formula_Holds.calls k1 t394 t395 t396 t397 _ _ t398 _ _ l1 true _ ?side1 ?side2 ?side3 ?side4 A79.out).mono ?_); (case side1 => exact zC (Kd.R_reads' HO_403004.out).2.2); (case side2 => exact (Kd.R_reads' HO_403004.out).2.1); (case side3 => exact zC (Kd.C_below HR1.out HB.out)); (case side4 => exact HC1.out); rintro e w88 ⟨rfl, hb⟩; have n0_ := am (Kd.R_below (zR HO_10.out) hb); have n1_ := am (Kd.R_below (zR HO_11.out) hb); have n2_ := am (Kd.R_below (zR HO_403004.out) hb); have n3_ := am (blk_below (zB BK402.out) hb); have n4_ := am (below_step (zL HB.out) hb); clear HO_10 HO_11 HO_403004 BK402 HB; have HO_10 := n0_; have HO_11 := n1_; have HO_403004 := n2_; have BK402 := n3_; have HB := n4_; clear n0_ n1_ n2_ n3_ n4_; (try clear hb); (try clear hb2); (try clear hk); (try clear hi); obtain ⟨hcz89_0, hcz89_1, hcz89_2, hcz89_3, hcz89_4, hfz89_0, hfz89_1, hfz89_2, hfz89_3, hfz89_4⟩ := b5 BK402.out; obtain ⟨Ao90, co90, eo90⟩ := Kd.R_slice HO_10.out; subst eo90) | (go_at_call 15; (with_reducible refine (formula_Holds.calls k1 t394 t395 t396 t397 _ _ t398 _ _ x10_1 true _ ?side1 ?side2 ?side3 ?side4 A81.out).mono ?_); (case side1 => exact zC (Kd.R_reads' HO_403004.out).2.2); (case side2 => exact (Kd.R_reads' HO_403004.out).2.1); (case side3 => exact zC (Kd.R_reads' HO_10.out).2.2); (case side4 => exact (Kd.R_reads' HO_10.out).2.1); rintro e w91 ⟨rfl, hb⟩; have n0_ := am (Kd.R_below (zR HO_10.out) hb); have n1_ := am (Kd.R_below (zR HO_11.out) hb); have n2_ := am (Kd.R_below (zR HO_403004.out) hb); have n3_ := am (blk_below (zB BK402.out) hb); have n4_ := am (below_step (zL HB.out) hb); clear HO_10 HO_11 HO_403004 BK402 HB; have HO_10 := n0_; have HO_11 := n1_; have HO_403004 := n2_; have BK402 := n3_; have HB := n4_; clear n0_ n1_ n2_ n3_ n4_; (try clear hb); (try clear hb2); (try clear hk); (try clear hi); obtain ⟨hcz92_0, hcz92_1, hcz92_2, hcz92_3, hcz92_4, hfz92_0, hfz92_1, hfz92_2, hfz92_3, hfz92_4⟩ := b5 BK402.out; obtain ⟨Ao93, co93, eo93⟩ := Kd.R_slice HO_11.out; subst eo93) | (go_at_call 15; (with_reducible refine (formula_Holds.calls k1 t394 t395 t396 t397 _ _ t398 _ _ x11_1 true _ ?side1 ?side2 ?side3 ?side4 A83.out).mono ?_); (case side1 => exact zC (Kd.R_reads' HO_403004.out).2.2); (case side2 => exact (Kd.R_reads' HO_403004.out).2.1); (case side3 => exact zC (Kd.R_reads' HO_11.out).2.2); (case side4 => exact (Kd.R_reads' HO_11.out).2.1); rintro e w94 ⟨rfl, hb⟩; have n0_ := am (Kd.R_below (zR HO_10.out) hb); have n1_ := am (Kd.R_below (zR HO_11.out) hb); have n2_ := am (Kd.R_below (zR HO_403004.out) hb); have n3_ := am (blk_below (zB BK402.out) hb); have n4_ := am (below_step (zL HB.out) hb); clear HO_10 HO_11 HO_403004 BK402 HB; have HO_10 := n0_; have HO_11 := n1_; have HO_403004 := n2_; have BK402 := n3_; have HB := n4_; clear n0_ n1_ n2_ n3_ n4_; (try clear hb); (try clear hb2); (try clear hk); (try clear hi); obtain ⟨hcz95_0, hcz95_1, hcz95_2, hcz95_3, hcz95_4, hfz95_0, hfz95_1, hfz95_2, hfz95_3, hfz95_4⟩ := b5 BK402.out) | (go_at_call 15; (refine (formula_Holds.calls k1 t394 t395 t396 t397 _ _ t398 _ _ ([] : List Bool) t429 _ ?side1 ?side2 ?side3 ?side4 A85.out).mono ?_); (case side1 => exact zC (Kd.R_reads' HO_403004.out).2.2); (case side2 => exact (Kd.R_reads' HO_403004.out).2.1); (case side3 => exact Kd.C_nil _ _); (case side4 => exact Nat.le_refl _); rintro e w96 ⟨rfl, hb⟩; have n0_ := am (Kd.R_below (zR HO_10.out) hb); have n1_ := am (Kd.R_below (zR HO_11.out) hb); have n2_ := am (Kd.R_below (zR HO_403004.out) hb); have n3_ := am (blk_below (zB BK402.out) hb); have n4_ := am (below_step (zL HB.out) hb); clear HO_10 HO_11 HO_403004 BK402 HB; have HO_10 := n0_; have HO_11 := n1_; have HO_403004 := n2_; have BK402 := n3_; have HB := n4_; clear n0_ n1_ n2_ n3_ n4_; (try clear hb); (try clear hb2); (try clear hk); (try clear hi)))
            go_ret
            exact ⟨by first | rfl | (simp [errW_none, errW_some] <;> rfl) | (simp [*, errW_none, errW_some] <;> rfl), by repeat (first | (with_reducible first | exact HB.out | apply ba | apply bd | apply be | refine below_set ?_ GE402.out) | exact HB.out)⟩
           ·replace c84 := Bool.eq_false_iff.mpr c84
            subst c84
            have H1 : (none) = some r := by rw [if_neg (show ¬ (false = true) by decide)] at H; exact H
            clear H
            have H := H1
            clear H1
            exact absurd H (by simp)
          ·replace c82 := Bool.eq_false_iff.mpr c82
           subst c82
           have H1 : (none) = some r := by rw [if_neg (show ¬ (false = true) by decide)] at H; exact H
           clear H
           have H := H1
           clear H1
           exact absurd H (by simp)
         ·replace c80 := Bool.eq_false_iff.mpr c80
          subst c80
          have H1 : ((formula_Holds.f k1 t394 t395 t396 t397 t398 x11_1).bind fun t430 => (if t430 = true then ((formula_Holds.f k1 t394 t395 t396 t397 t398 ([] : List Bool)).bind fun t431 => (some (!t431))) else (none))) = some r := by rw [if_neg (show ¬ (false = true) by decide)] at H; exact H
          clear H
          have H := H1
          clear H1
          replace H := Option.bind_eq_some_iff.mp H
          obtain ⟨t430, A970, H⟩ := H
          replace H : (if t430 = true then ((formula_Holds.f k1 t394 t395 t396 t397 t398 ([] : List Bool)).bind fun t431 => (some (!t431))) else (none)) = some r := H
          have A97 := Aside0.mk A970
          clear A970
          by_cases c98 : t430 = true
          ·subst c98
           have H1 : ((formula_Holds.f k1 t394 t395 t396 t397 t398 ([] : List Bool)).bind fun t431 => (some (!t431))) = some r := by rw [if_pos rfl] at H; exact H
           clear H
           have H := H1
           clear H1
           replace H := Option.bind_eq_some_iff.mp H
           obtain ⟨t431, A990, H⟩ := H
           replace H : (some (!t431)) = some r := H
           have A99 := Aside0.mk A990
           clear A990
           obtain rfl := Option.some.inj H
           go_wp2_with (first | ((with_reducible refine gate_callee (f := 14) rfl ?_); refine goesL_ (some 64) rfl rfl Try.func14 (by kernel_rfl) rfl #[] rfl mp0 ?_; (with_reducible refine (clusterlockslaw08_awake.calls k1  true _ A76.out).mono ?_); rintro e w100 ⟨rfl, hb⟩; refine ⟨_, rfl, ?_⟩; have n0_ := am (Kd.R_below (zR HO_10.out) hb); have n1_ := am (Kd.R_below (zR HO_11.out) hb); have n2_ := am (Kd.R_below (zR HO_403004.out) hb); have n3_ := am (blk_below (zB BK402.out) hb); have n4_ := am (below_step (zL HB.out) hb); clear HO_10 HO_11 HO_403004 BK402 HB; have HO_10 := n0_; have HO_11 := n1_; have HO_403004 := n2_; have BK402 := n3_; have HB := n4_; clear n0_ n1_ n2_ n3_ n4_; (try clear hb); (try clear hb2); (try clear hk); (try clear hi); obtain ⟨hcz101_0, hcz101_1, hcz101_2, hcz101_3, hcz101_4, hfz101_0, hfz101_1, hfz101_2, hfz101_3, hfz101_4⟩ := b5 BK402.out) | (go_at_call 15; (with_reducible refine (formula_Holds.calls k1 t394 t395 t396 t397 _ _ t398 _ _ l1 false _ ?side1 ?side2 ?side3 ?side4 A79.out).mono ?_); (case side1 => exact zC (Kd.R_reads' HO_403004.out).2.2); (case side2 => exact (Kd.R_reads' HO_403004.out).2.1); (case side3 => exact zC (Kd.C_below HR1.out HB.out)); (case side4 => exact HC1.out); rintro e w102 ⟨rfl, hb⟩; have n0_ := am (Kd.R_below (zR HO_10.out) hb); have n1_ := am (Kd.R_below (zR HO_11.out) hb); have n2_ := am (Kd.R_below (zR HO_403004.out) hb); have n3_ := am (blk_below (zB BK402.out) hb); have n4_ := am (below_step (zL HB.out) hb); clear HO_10 HO_11 HO_403004 BK402 HB; have HO_10 := n0_; have HO_11 := n1_; have HO_403004 := n2_; have BK402 := n3_; have HB := n4_; clear n0_ n1_ n2_ n3_ n4_; (try clear hb); (try clear hb2); (try clear hk); (try clear hi); obtain ⟨hcz103_0, hcz103_1, hcz103_2, hcz103_3, hcz103_4, hfz103_0, hfz103_1, hfz103_2, hfz103_3, hfz103_4⟩ := b5 BK402.out; obtain ⟨Ao104, co104, eo104⟩ := Kd.R_slice HO_11.out; subst eo104) | (go_at_call 15; (with_reducible refine (formula_Holds.calls k1 t394 t395 t396 t397 _ _ t398 _ _ x11_1 true _ ?side1 ?side2 ?side3 ?side4 A97.out).mono ?_); (case side1 => exact zC (Kd.R_reads' HO_403004.out).2.2); (case side2 => exact (Kd.R_reads' HO_403004.out).2.1); (case side3 => exact zC (Kd.R_reads' HO_11.out).2.2); (case side4 => exact (Kd.R_reads' HO_11.out).2.1); rintro e w105 ⟨rfl, hb⟩; have n0_ := am (Kd.R_below (zR HO_10.out) hb); have n1_ := am (Kd.R_below (zR HO_11.out) hb); have n2_ := am (Kd.R_below (zR HO_403004.out) hb); have n3_ := am (blk_below (zB BK402.out) hb); have n4_ := am (below_step (zL HB.out) hb); clear HO_10 HO_11 HO_403004 BK402 HB; have HO_10 := n0_; have HO_11 := n1_; have HO_403004 := n2_; have BK402 := n3_; have HB := n4_; clear n0_ n1_ n2_ n3_ n4_; (try clear hb); (try clear hb2); (try clear hk); (try clear hi); obtain ⟨hcz106_0, hcz106_1, hcz106_2, hcz106_3, hcz106_4, hfz106_0, hfz106_1, hfz106_2, hfz106_3, hfz106_4⟩ := b5 BK402.out) | (go_at_call 15; (refine (formula_Holds.calls k1 t394 t395 t396 t397 _ _ t398 _ _ ([] : List Bool) t431 _ ?side1 ?side2 ?side3 ?side4 A99.out).mono ?_); (case side1 => exact zC (Kd.R_reads' HO_403004.out).2.2); (case side2 => exact (Kd.R_reads' HO_403004.out).2.1); (case side3 => exact Kd.C_nil _ _); (case side4 => exact Nat.le_refl _); rintro e w107 ⟨rfl, hb⟩; have n0_ := am (Kd.R_below (zR HO_10.out) hb); have n1_ := am (Kd.R_below (zR HO_11.out) hb); have n2_ := am (Kd.R_below (zR HO_403004.out) hb); have n3_ := am (blk_below (zB BK402.out) hb); have n4_ := am (below_step (zL HB.out) hb); clear HO_10 HO_11 HO_403004 BK402 HB; have HO_10 := n0_; have HO_11 := n1_; have HO_403004 := n2_; have BK402 := n3_; have HB := n4_; clear n0_ n1_ n2_ n3_ n4_; (try clear hb); (try clear hb2); (try clear hk); (try clear hi)))
           go_ret
           exact ⟨by first | rfl | (simp [errW_none, errW_some] <;> rfl) | (simp [*, errW_none, errW_some] <;> rfl), by repeat (first | (with_reducible first | exact HB.out | apply ba | apply bd | apply be | refine below_set ?_ GE402.out) | exact HB.out)⟩
          ·replace c98 := Bool.eq_false_iff.mpr c98
           subst c98
           have H1 : (none) = some r := by rw [if_neg (show ¬ (false = true) by decide)] at H; exact H
           clear H
           have H := H1
           clear H1
           exact absurd H (by simp)
        ·rw [if_neg c78] at H
         exact absurd H (by simp)
       ·replace c77 := Bool.eq_false_iff.mpr c77
        subst c77
        have H1 : (none) = some r := by rw [if_neg (show ¬ (false = true) by decide)] at H; exact H
        clear H
        have H := H1
        clear H1
        exact absurd H (by simp)
   ·rw [if_neg c10] at H
    exact absurd H (by simp)
  ·rw [if_neg c9] at H
   exact absurd H (by simp)
 ·replace c5 := Bool.eq_false_iff.mpr c5
  subst c5
  have H1 : ((clusterlockslaw08_awake.f k).bind fun t388 => (some t388)) = some r := by rw [if_neg (show ¬ (false = true) by decide)] at H; exact H
  clear H
  have H := H1
  clear H1
  replace H := Option.bind_eq_some_iff.mp H
  obtain ⟨t388, A1080, H⟩ := H
  replace H : (some t388) = some r := H
  have A108 := Aside0.mk A1080
  clear A1080
  obtain rfl := Option.some.inj H
  go_enter Try.func5, Try.ntmps5
  go_wp2_with (first | ((with_reducible refine gate_callee (f := 19) rfl ?_); refine goesL_ (some 14) rfl rfl Try.func19 (by kernel_rfl) rfl #[.slice A0 l0.length c0] rfl mp1 ?_; (with_reducible refine (clusterlocksmill_Light.calls _ _ l0 false _ ?side1 ?side2 A4.out).mono ?_); (case side1 => exact zC HR0.out); (case side2 => exact HC0.out); rintro e w' ⟨rfl, ⟨nd, rfl⟩⟩; refine ⟨_, rfl, ?_⟩) | ((with_reducible refine gate_callee (f := 14) rfl ?_); refine goesL_ (some 16) rfl rfl Try.func14 (by kernel_rfl) rfl #[] rfl mp0 ?_; (with_reducible refine (clusterlockslaw08_awake.calls k  t388 _ A108.out).mono ?_); rintro e w109 ⟨rfl, hb⟩; refine ⟨_, rfl, ?_⟩; have n0_ := am (below_step (zL HB.out) hb); clear HB; have HB := n0_; clear n0_; (try clear hb); (try clear hb2); (try clear hk); (try clear hi)))
  go_ret
  exact ⟨by first | rfl | (simp [errW_none, errW_some] <;> rfl) | (simp [*, errW_none, errW_some] <;> rfl), zL HB.out⟩

end Go.Proofs.Ytefbcebpokoinaa.Y

-- Laid by a program of this session's (xprint.py, which runs the kit's print.py with patches of its own). Lean checks it.
import Derived.Test.YtefbcebpokoinaaY0
import Derived.Test.YtefbcebpokoinaaY5
import Derived.Test.YtefbcebpokoinaaY10
import Derived.Test.YtefbcebpokoinaaY14
import Derived.Test.YtefbcebpokoinaaY15
import Derived.Test.YtefbcebpokoinaaY25
namespace Go.Proofs.Ytefbcebpokoinaa.Y
open Go.RowKit Go.Proofs.YtefbcebpokoinaaW.PrintWords Go.Proofs.YtefbcebpokoinaaW.PrintLast Go.Proofs.YtefbcebpokoinaaW.PrintMore
attribute [local go_sem] max2_int min2_int max_two min_two max_three min_three max_four min_four   -- for this text's walks alone
set_option linter.unusedVariables false
set_option linter.unusedSimpArgs false

/-! ### clusterlockslaw08_FormulaCatalogs: function 11 -/
def clusterlockslaw08_FormulaCatalogs.f (k : Nat) (l0 : List Int) : Option (Bool) := (clusterlocksmill_Light.f l0).bind fun t580 => (if t580 = true then ((clusterlocksmill_Catalog.f k l0 0).bind fun bt583 => ((clusterlocksmill_Expr.f k l0 bt583.2 bt583.1).bind fun bt587 => ((formula_Atoms.f k bt587.1 bt587.2.1 bt587.2.2.1 bt587.2.2.2.1 bt587.2.2.2.2.1).bind fun t596 => ((clusterlockslaw08_awake.f k).bind fun t599 => (if t599 = true then (if (t596.length : Int) > 0 then ((formula_Resolve.f k bt583.1 bt587.1 bt587.2.1 bt587.2.2.1 bt587.2.2.2.1 bt587.2.2.2.2.1).bind fun t600 => (if t600 = 0 then ((formula_Resolve.f k ([] : List (S59)) bt587.1 bt587.2.1 bt587.2.2.1 bt587.2.2.2.1 bt587.2.2.2.2.1).bind fun t601 => (some (t601 == 10))) else (none))) else (none)) else (none)))))) else ((clusterlockslaw08_awake.f k).bind fun t581 => (some t581)))
theorem clusterlockslaw08_FormulaCatalogs.mono : ∀ a0 k, LeO (clusterlockslaw08_FormulaCatalogs.f k a0) (clusterlockslaw08_FormulaCatalogs.f (k + 1) a0) := by
 intro a0 k
 unfold clusterlockslaw08_FormulaCatalogs.f
 repeat' first
   | (with_reducible exact clusterlockslaw08_awake.mono _)
   | (with_reducible exact clusterlocksmill_Catalog.mono _ _ _)
   | (with_reducible exact clusterlocksmill_Expr.mono _ _ _ _)
   | (with_reducible exact formula_Atoms.mono _ _ _ _ _ _)
   | (with_reducible exact formula_Resolve.mono _ _ _ _ _ _ _)
   | (with_reducible exact LeO.refl _)
   | (with_reducible exact LeO.none _)
   | (with_reducible refine LeO.ite ?_ ?_)
   | (with_reducible refine LeO.bind ?_ (fun _ => ?_))
   | exact clusterlockslaw08_awake.mono _
   | exact clusterlocksmill_Catalog.mono _ _ _
   | exact clusterlocksmill_Expr.mono _ _ _ _
   | exact formula_Atoms.mono _ _ _ _ _ _
   | exact formula_Resolve.mono _ _ _ _ _ _ _
   | exact LeO.none _
   | refine LeO.ite ?_ ?_
   | refine LeO.bind ?_ (fun _ => ?_)
set_option maxHeartbeats 8000000 in
set_option maxRecDepth 100000 in
theorem clusterlockslaw08_FormulaCatalogs.calls (k : Nat) (A0 : Option Addr) (c0 : Nat) (l0 : List Int) (r : Bool) (w : World) (hr0 : Kd.C (Kd.int .i64) w A0 l0.length l0) (hc0 : l0.length ≤ c0) (h : clusterlockslaw08_FormulaCatalogs.f k l0 = some r) :
  Calls Try.prog 11 #[.slice A0 l0.length c0] w fun e w' => e = .returned (.bool r) ∧ Below w.heap.size w w' := by
 have hu39 := Try.underlying39
 have hu28 := Try.underlying28
 have HR0 := Aside0.mk hr0
 have HC0 := Aside0.mk hc0
 clear hr0 hc0
 have HB := am (Below.refl w.heap.size w)
 have H : ((clusterlocksmill_Light.f l0).bind fun t580 => (if t580 = true then ((clusterlocksmill_Catalog.f k l0 0).bind fun bt583 => ((clusterlocksmill_Expr.f k l0 bt583.2 bt583.1).bind fun bt587 => ((formula_Atoms.f k bt587.1 bt587.2.1 bt587.2.2.1 bt587.2.2.2.1 bt587.2.2.2.2.1).bind fun t596 => ((clusterlockslaw08_awake.f k).bind fun t599 => (if t599 = true then (if (t596.length : Int) > 0 then ((formula_Resolve.f k bt583.1 bt587.1 bt587.2.1 bt587.2.2.1 bt587.2.2.2.1 bt587.2.2.2.2.1).bind fun t600 => (if t600 = 0 then ((formula_Resolve.f k ([] : List (S59)) bt587.1 bt587.2.1 bt587.2.2.1 bt587.2.2.2.1 bt587.2.2.2.2.1).bind fun t601 => (some (t601 == 10))) else (none))) else (none)) else (none)))))) else ((clusterlockslaw08_awake.f k).bind fun t581 => (some t581)))) = some r := h
 clear h
 replace H := Option.bind_eq_some_iff.mp H
 obtain ⟨t580, A20, H⟩ := H
 replace H : (if t580 = true then ((clusterlocksmill_Catalog.f k l0 0).bind fun bt583 => ((clusterlocksmill_Expr.f k l0 bt583.2 bt583.1).bind fun bt587 => ((formula_Atoms.f k bt587.1 bt587.2.1 bt587.2.2.1 bt587.2.2.2.1 bt587.2.2.2.2.1).bind fun t596 => ((clusterlockslaw08_awake.f k).bind fun t599 => (if t599 = true then (if (t596.length : Int) > 0 then ((formula_Resolve.f k bt583.1 bt587.1 bt587.2.1 bt587.2.2.1 bt587.2.2.2.1 bt587.2.2.2.2.1).bind fun t600 => (if t600 = 0 then ((formula_Resolve.f k ([] : List (S59)) bt587.1 bt587.2.1 bt587.2.2.1 bt587.2.2.2.1 bt587.2.2.2.2.1).bind fun t601 => (some (t601 == 10))) else (none))) else (none)) else (none)))))) else ((clusterlockslaw08_awake.f k).bind fun t581 => (some t581))) = some r := H
 have A2 := Aside0.mk A20
 clear A20
 by_cases c3 : t580 = true
 ·subst c3
  have H1 : ((clusterlocksmill_Catalog.f k l0 0).bind fun bt583 => ((clusterlocksmill_Expr.f k l0 bt583.2 bt583.1).bind fun bt587 => ((formula_Atoms.f k bt587.1 bt587.2.1 bt587.2.2.1 bt587.2.2.2.1 bt587.2.2.2.2.1).bind fun t596 => ((clusterlockslaw08_awake.f k).bind fun t599 => (if t599 = true then (if (t596.length : Int) > 0 then ((formula_Resolve.f k bt583.1 bt587.1 bt587.2.1 bt587.2.2.1 bt587.2.2.2.1 bt587.2.2.2.2.1).bind fun t600 => (if t600 = 0 then ((formula_Resolve.f k ([] : List (S59)) bt587.1 bt587.2.1 bt587.2.2.1 bt587.2.2.2.1 bt587.2.2.2.2.1).bind fun t601 => (some (t601 == 10))) else (none))) else (none)) else (none)))))) = some r := by rw [if_pos rfl] at H; exact H
  clear H
  have H := H1
  clear H1
  replace H := Option.bind_eq_some_iff.mp H
  obtain ⟨⟨t583, t586⟩, A40, H⟩ := H
  replace H : ((clusterlocksmill_Expr.f k l0 t586 t583).bind fun bt587 => ((formula_Atoms.f k bt587.1 bt587.2.1 bt587.2.2.1 bt587.2.2.2.1 bt587.2.2.2.2.1).bind fun t596 => ((clusterlockslaw08_awake.f k).bind fun t599 => (if t599 = true then (if (t596.length : Int) > 0 then ((formula_Resolve.f k t583 bt587.1 bt587.2.1 bt587.2.2.1 bt587.2.2.2.1 bt587.2.2.2.2.1).bind fun t600 => (if t600 = 0 then ((formula_Resolve.f k ([] : List (S59)) bt587.1 bt587.2.1 bt587.2.2.1 bt587.2.2.2.1 bt587.2.2.2.2.1).bind fun t601 => (some (t601 == 10))) else (none))) else (none)) else (none))))) = some r := H
  have A4 := Aside0.mk A40
  clear A40
  replace H := Option.bind_eq_some_iff.mp H
  obtain ⟨⟨t587, t588, t589, t590, t591, t594⟩, A50, H⟩ := H
  replace H : ((formula_Atoms.f k t587 t588 t589 t590 t591).bind fun t596 => ((clusterlockslaw08_awake.f k).bind fun t599 => (if t599 = true then (if (t596.length : Int) > 0 then ((formula_Resolve.f k t583 t587 t588 t589 t590 t591).bind fun t600 => (if t600 = 0 then ((formula_Resolve.f k ([] : List (S59)) t587 t588 t589 t590 t591).bind fun t601 => (some (t601 == 10))) else (none))) else (none)) else (none)))) = some r := H
  have A5 := Aside0.mk A50
  clear A50
  replace H := Option.bind_eq_some_iff.mp H
  obtain ⟨t596, A60, H⟩ := H
  replace H : ((clusterlockslaw08_awake.f k).bind fun t599 => (if t599 = true then (if (t596.length : Int) > 0 then ((formula_Resolve.f k t583 t587 t588 t589 t590 t591).bind fun t600 => (if t600 = 0 then ((formula_Resolve.f k ([] : List (S59)) t587 t588 t589 t590 t591).bind fun t601 => (some (t601 == 10))) else (none))) else (none)) else (none))) = some r := H
  have A6 := Aside0.mk A60
  clear A60
  replace H := Option.bind_eq_some_iff.mp H
  obtain ⟨t599, A70, H⟩ := H
  replace H : (if t599 = true then (if (t596.length : Int) > 0 then ((formula_Resolve.f k t583 t587 t588 t589 t590 t591).bind fun t600 => (if t600 = 0 then ((formula_Resolve.f k ([] : List (S59)) t587 t588 t589 t590 t591).bind fun t601 => (some (t601 == 10))) else (none))) else (none)) else (none)) = some r := H
  have A7 := Aside0.mk A70
  clear A70
  by_cases c8 : t599 = true
  ·subst c8
   have H1 : (if (t596.length : Int) > 0 then ((formula_Resolve.f k t583 t587 t588 t589 t590 t591).bind fun t600 => (if t600 = 0 then ((formula_Resolve.f k ([] : List (S59)) t587 t588 t589 t590 t591).bind fun t601 => (some (t601 == 10))) else (none))) else (none)) = some r := by rw [if_pos rfl] at H; exact H
   clear H
   have H := H1
   clear H1
   by_cases c9 : (t596.length : Int) > 0
   ·rw [if_pos c9] at H
    have c9b0 : decide (0 < (t596.length : Int)) = true := decide_eq_true c9
    have c9b1 : decide (0 < t596.length) = true := decide_eq_true (by omega)
    clear c9
    replace H := Option.bind_eq_some_iff.mp H
    obtain ⟨t600, A100, H⟩ := H
    replace H : (if t600 = 0 then ((formula_Resolve.f k ([] : List (S59)) t587 t588 t589 t590 t591).bind fun t601 => (some (t601 == 10))) else (none)) = some r := H
    have A10 := Aside0.mk A100
    clear A100
    by_cases c11 : t600 = 0
    ·rw [if_pos c11] at H
     have c11b0 : (t600 == 0) = true := beq_iff_eq.mpr c11
     have c11b1 : (t600 != 0) = false := bne_eq_false_iff_eq.mpr c11
     clear c11
     replace H := Option.bind_eq_some_iff.mp H
     obtain ⟨t601, A120, H⟩ := H
     replace H : (some (t601 == 10)) = some r := H
     have A12 := Aside0.mk A120
     clear A120
     obtain rfl := Option.some.inj H
     go_enter Try.func11, Try.ntmps11
     go_wp2_with (first | ((with_reducible refine gate_callee (f := 19) rfl ?_); refine goesL_ (some 8) rfl rfl Try.func19 (by kernel_rfl) rfl #[.slice A0 l0.length c0] rfl mp1 ?_; (with_reducible refine (clusterlocksmill_Light.calls _ _ l0 true _ ?side1 ?side2 A2.out).mono ?_); (case side1 => exact zC HR0.out); (case side2 => exact HC0.out); rintro e w' ⟨rfl, ⟨nd, rfl⟩⟩; refine ⟨_, rfl, ?_⟩) | ((with_reducible refine gate_dst (N := 13) rfl ?_); (try (refine gate_guard (by rfl) ?_; dsimp only)); refine box_event ?hg (N := 13) ?hd (cs := #[.slice A0 l0.length c0, .int .i64 0]) (t := 39) ?hr ?_; (case hd => rfl); (case hg => rfl); (case hr => first | (go_simp; done) | (go_simp; rfl)); intro gb582 hg w13 hbox hb; have n0_ := am (below_step (zL HB.out) hb); have n1_ := am (zS hg HB.out); have n2_ := am (zS hg HB.out); have n3_ := am ((show IsS39 w _ gb582 l0 0 from ⟨_, _, hbox, (by rw [hg]; exact (below_size (zL HB.out))), HR0.out⟩)); clear HB; have HB := n0_; have GW582 := n1_; have GE582 := n2_; have HI582 := n3_; clear n0_ n1_ n2_ n3_; clear hb hbox hg) | ((with_reducible refine gate_callee (f := 21) rfl ?_); refine goesL_ (some 15) rfl rfl Try.func21 (by kernel_rfl) rfl #[.pointer (some ⟨gb582, 0, none⟩)] rfl mp1 ?_; (with_reducible refine (clusterlocksmill_Catalog.calls k gb582 l0 0 t583 t586 w _ ?side1 ?side2 A4.out).mono ?_); (case side1 => repeat (first | (with_reducible first | exact HI582.out | apply IsS39.alloc | apply IsS39.drewN | apply IsS39.drew | apply IsS39.set_1) | exact HI582.out)); (case side2 => repeat (first | (with_reducible first | exact HB.out | apply ba | apply bd | apply be | refine below_set ?_ (IsS39.ge HI582.out)) | exact HB.out)); rintro e w14 ⟨v584, rfl, ho0, hi, hb, hk⟩; refine ⟨_, rfl, ?_⟩; have n0_ := am (Kd.R_lower ho0 (below_size (by repeat (first | (with_reducible first | exact HB.out | apply ba | apply bd | apply be | refine below_set ?_ (IsS39.ge HI582.out)) | exact HB.out)))); have n1_ := am (hb); have n2_ := am (hi); clear HB HI582; have HO585 := n0_; have HB := n1_; have HI582 := n2_; clear n0_ n1_ n2_; (try clear hb); (try clear hb2); (try clear hk); (try clear hi); (try clear ho0); obtain ⟨Ao15, co15, eo15⟩ := Kd.R_slice HO585.out; subst eo15) | ((with_reducible refine gate_callee (f := 20) rfl ?_); refine goesL_ (some 18) rfl rfl Try.func20 (by kernel_rfl) rfl #[.pointer (some ⟨gb582, 0, none⟩), .slice Ao15 t583.length co15] rfl mp2 ?_; (with_reducible refine (clusterlocksmill_Expr.calls k gb582 l0 t586 _ _ t583 t587 t588 t589 t590 t591 t594 w _ ?side1 ?side2 ?side3 ?side4 A5.out).mono ?_); (case side1 => repeat (first | (with_reducible first | exact HI582.out | apply IsS39.alloc | apply IsS39.drewN | apply IsS39.drew | apply IsS39.set_1) | exact HI582.out)); (case side2 => repeat (first | (with_reducible first | exact HB.out | apply ba | apply bd | apply be | refine below_set ?_ (IsS39.ge HI582.out)) | exact HB.out)); (case side3 => exact Kd.C_foot_own (IsS39.apart (show IsS39 w _ gb582 l0 t586 from by repeat (first | (with_reducible first | exact HI582.out | apply IsS39.alloc | apply IsS39.drewN | apply IsS39.drew | apply IsS39.set_1) | exact HI582.out)) (zR HO585.out) (by decide)) (fun _ h_ => h_.2)); (case side4 => exact (Kd.R_reads' HO585.out).2.1); rintro e w16 ⟨v592, rfl, ho0, hi, hb, hk⟩; refine ⟨_, rfl, ?_⟩; have n0_ := am (Kd.R_mono (Kd.R_keep (IsS39.apart (show IsS39 w _ gb582 l0 t586 from by repeat (first | (with_reducible first | exact HI582.out | apply IsS39.alloc | apply IsS39.drewN | apply IsS39.drew | apply IsS39.set_1) | exact HI582.out)) (zR HO585.out) (by decide)) hk (fun _ h => h.2)) (fun _ h => h.1)); have n1_ := am (Kd.R_lower ho0 (below_size (by repeat (first | (with_reducible first | exact HB.out | apply ba | apply bd | apply be | refine below_set ?_ (IsS39.ge HI582.out)) | exact HB.out)))); have n2_ := am (hb); have n3_ := am (hi); clear HO585 HB HI582; have HO585 := n0_; have HO593 := n1_; have HB := n2_; have HI582 := n3_; clear n0_ n1_ n2_ n3_; (try clear hb); (try clear hb2); (try clear hk); (try clear hi); (try clear ho0)) | ((with_reducible refine gate_dst (N := 5) rfl ?_); (try (refine gate_guard (by rfl) ?_; dsimp only)); refine box_event ?hg (N := 5) ?hd (cs := #[.int .i64 0, .string (⟨#[]⟩ : ByteArray), .int .i64 0, .int .i64 0, .slice none 0 0]) (t := 28) ?hr ?_; (case hd => rfl); (case hg => rfl); (case hr => first | (go_simp; done) | (go_simp; rfl)); intro gb595 hg w17 hbox hb; have n0_ := am (Kd.R_below (zR HO585.out) hb); have n1_ := am (Kd.R_below (Kd.R_elderB (zR HO593.out) gb595 (Nat.le_of_eq hg.symm)) hb); have n2_ := am (IsS39.below (by repeat (first | (with_reducible first | exact HI582.out | apply IsS39.alloc | apply IsS39.drewN | apply IsS39.drew | apply IsS39.set_1) | exact HI582.out)) hb); have n3_ := am (below_step (by repeat (first | (with_reducible first | exact HB.out | apply ba | apply bd | apply be | refine below_set ?_ (IsS39.ge HI582.out)) | exact HB.out)) hb); have n4_ := am (hbox); have n5_ := am ((by rw [hg]; exact (below_size (by repeat (first | (with_reducible first | exact HB.out | apply ba | apply bd | apply be | refine below_set ?_ (IsS39.ge HI582.out)) | exact HB.out))) : w.heap.size ≤ gb595)); have n6_ := am ((by rw [hg]; exact (below_size (by repeat (first | (with_reducible first | exact HB.out | apply ba | apply bd | apply be | refine below_set ?_ (IsS39.ge HI582.out)) | exact HB.out))) : w.heap.size ≤ gb595)); have n7_ := am ((by rw [hg]; exact Nat.ne_of_lt (IsS39.lt (show IsS39 w _ gb582 l0 t594 from by repeat (first | (with_reducible first | exact HI582.out | apply IsS39.alloc | apply IsS39.drewN | apply IsS39.drew | apply IsS39.set_1) | exact HI582.out))) : gb582 ≠ gb595)); have n8_ := am ((by rw [hg]; exact Nat.ne_of_gt (IsS39.lt (show IsS39 w _ gb582 l0 t594 from by repeat (first | (with_reducible first | exact HI582.out | apply IsS39.alloc | apply IsS39.drewN | apply IsS39.drew | apply IsS39.set_1) | exact HI582.out))) : gb595 ≠ gb582)); clear HO585 HO593 HI582 HB; have HO585 := n0_; have HO593 := n1_; have HI582 := n2_; have HB := n3_; have BK595 := n4_; have GW595 := n5_; have GE595 := n6_; have NB582_595 := n7_; have NB595_582 := n8_; clear n0_ n1_ n2_ n3_ n4_ n5_ n6_ n7_ n8_; clear hb hbox hg; have hnb18 := NB595_582.out; have hnc18 := NB582_595.out; obtain ⟨hcz19_0, hcz19_1, hcz19_2, hcz19_3, hcz19_4, hfz19_0, hfz19_1, hfz19_2, hfz19_3, hfz19_4⟩ := b5 BK595.out; obtain ⟨Ao20, co20, eo20⟩ := Kd.R_slice HO593.out; subst eo20) | ((with_reducible refine gate_store (t := 28) (p := 5) rfl ?_); refine store_event (t := 28) (p := 5) (v := ?vo_w21) (w1 := (((((w17.setCell ⟨gb595, 0, none⟩ (.int .i64 t587)).setCell ⟨gb595, 1, none⟩ (.string t588)).setCell ⟨gb595, 2, none⟩ (.int .i64 t589)).setCell ⟨gb595, 3, none⟩ (.int .i64 t590)).setCell ⟨gb595, 4, none⟩ (.slice Ao20 t591.length co20))) ?hg ?ho ?hn ?hr ?_; (case ho => rfl); (case hg => rfl); (case hn => rfl); (case hr => first | (go_simp; done) | (go_simp; rfl)); intro w21 hw; have n0_ : Aside0 (Kd.R k59 59 w21 w.heap.size (fun _ => True) (.slice Ao15 t583.length co15) t583) := ⟨(by rw [hw]; exact (by exact zR <| Kd.R_mono (Kd.R_far (p := ⟨gb595, 4, none⟩) (Kd.R_far (p := ⟨gb595, 3, none⟩) (Kd.R_far (p := ⟨gb595, 2, none⟩) (Kd.R_far (p := ⟨gb595, 1, none⟩) (Kd.R_far (p := ⟨gb595, 0, none⟩) (Kd.R_types HO585.out BK595.out (by decide)) (fun _ hk => hk.2) (.int .i64 t587)) (fun _ hk => hk.2) (.string t588)) (fun _ hk => hk.2) (.int .i64 t589)) (fun _ hk => hk.2) (.int .i64 t590)) (fun _ hk => hk.2) (.slice Ao20 t591.length co20)) (fun _ hk => trivial)))⟩; have n1_ : Aside0 (Kd.R k28 28 w21 w.heap.size (fun k_ => k_ ≠ gb595) (.slice Ao20 t591.length co20) t591) := ⟨(by rw [hw]; exact (by exact zR <| Kd.R_mono (Kd.R_far (p := ⟨gb595, 4, none⟩) (Kd.R_far (p := ⟨gb595, 3, none⟩) (Kd.R_far (p := ⟨gb595, 2, none⟩) (Kd.R_far (p := ⟨gb595, 1, none⟩) (Kd.R_far (p := ⟨gb595, 0, none⟩) (Kd.R_mono HO593.out (fun k_ hk => (⟨hk, hk.2⟩ : _ ∧ k_ ≠ gb595))) (fun _ hk => hk.2) (.int .i64 t587)) (fun _ hk => hk.2) (.string t588)) (fun _ hk => hk.2) (.int .i64 t589)) (fun _ hk => hk.2) (.int .i64 t590)) (fun _ hk => hk.2) (.slice Ao20 t591.length co20)) (fun _ hk => hk.1.2)))⟩; have n2_ : Aside0 (w21.heap[gb595]? = some (.cells #[.int .i64 t587, .string t588, .int .i64 t589, .int .i64 t590, .slice Ao20 t591.length co20] 28 (0, 0))) := ⟨(by rw [hw]; exact (by refine blk_put (cs := #[.int .i64 t587, .string t588, .int .i64 t589, .int .i64 t590, .slice none 0 0]) ?_ 4 _ rfl; refine blk_put (cs := #[.int .i64 t587, .string t588, .int .i64 t589, .int .i64 0, .slice none 0 0]) ?_ 3 _ rfl; refine blk_put (cs := #[.int .i64 t587, .string t588, .int .i64 0, .int .i64 0, .slice none 0 0]) ?_ 2 _ rfl; refine blk_put (cs := #[.int .i64 t587, .string (⟨#[]⟩ : ByteArray), .int .i64 0, .int .i64 0, .slice none 0 0]) ?_ 1 _ rfl; refine blk_put (cs := #[.int .i64 0, .string (⟨#[]⟩ : ByteArray), .int .i64 0, .int .i64 0, .slice none 0 0]) ?_ 0 _ rfl; exact zB <| BK595.out))⟩; have n3_ : Aside0 (IsS39 w w21 gb582 l0 t594) := ⟨(by rw [hw]; exact (by repeat (first | (with_reducible first | exact HI582.out | apply IsS39.alloc | apply IsS39.drewN | apply IsS39.drew | apply IsS39.set_1 | refine IsS39.far ?_ NB582_595.out _) | exact HI582.out)))⟩; have n4_ : Aside0 (Below w.heap.size w w21) := ⟨(by rw [hw]; exact (by repeat (first | (with_reducible first | exact HB.out | apply ba | apply bd | apply be | refine below_set ?_ (IsS39.ge HI582.out) | refine below_set ?_ GE595.out) | exact HB.out)))⟩; clear hw HO585 HO593 BK595 HI582 HB; have HO585 := n0_; have HO593 := n1_; have BK595 := n2_; have HI582 := n3_; have HB := n4_; clear n0_ n1_ n2_ n3_ n4_; obtain ⟨hcz22_0, hcz22_1, hcz22_2, hcz22_3, hcz22_4, hfz22_0, hfz22_1, hfz22_2, hfz22_3, hfz22_4⟩ := b5 BK595.out) | ((with_reducible refine gate_callee (f := 12) rfl ?_); refine goesL_ (some 20) rfl rfl Try.func12 (by kernel_rfl) rfl #[.agg #[.int .i64 t587, .string t588, .int .i64 t589, .int .i64 t590, .slice Ao20 t591.length co20]] rfl mp1 ?_; (with_reducible refine (formula_Atoms.calls k t587 t588 t589 t590 _ _ t591 t596 _ ?side1 ?side2 A6.out).mono ?_); (case side1 => exact zC (Kd.R_reads' HO593.out).2.2); (case side2 => exact (Kd.R_reads' HO593.out).2.1); rintro e w23 ⟨v597, rfl, ho0, hb⟩; refine ⟨_, rfl, ?_⟩; have n0_ := am (Kd.R_below (zR HO585.out) hb); have n1_ := am (Kd.R_below (zR HO593.out) hb); have n2_ := am (Kd.R_lower ho0 (below_size (by repeat (first | (with_reducible first | exact HB.out | apply ba | apply bd | apply be | refine below_set ?_ (IsS39.ge HI582.out) | refine below_set ?_ GE595.out) | exact HB.out)))); have n3_ := am (IsS39.below (by repeat (first | (with_reducible first | exact HI582.out | apply IsS39.alloc | apply IsS39.drewN | apply IsS39.drew | apply IsS39.set_1 | refine IsS39.far ?_ NB582_595.out _) | exact HI582.out)) hb); have n4_ := am (blk_below (zB BK595.out) hb); have n5_ := am (below_step (by repeat (first | (with_reducible first | exact HB.out | apply ba | apply bd | apply be | refine below_set ?_ (IsS39.ge HI582.out) | refine below_set ?_ GE595.out) | exact HB.out)) hb); clear HO585 HO593 HI582 BK595 HB; have HO585 := n0_; have HO593 := n1_; have HO598 := n2_; have HI582 := n3_; have BK595 := n4_; have HB := n5_; clear n0_ n1_ n2_ n3_ n4_ n5_; (try clear hb); (try clear hb2); (try clear hk); (try clear hi); (try clear ho0)) | ((with_reducible refine gate_callee (f := 14) rfl ?_); refine goesL_ (some 21) rfl rfl Try.func14 (by kernel_rfl) rfl #[] rfl mp0 ?_; (with_reducible refine (clusterlockslaw08_awake.calls k  true _ A7.out).mono ?_); rintro e w24 ⟨rfl, hb⟩; refine ⟨_, rfl, ?_⟩; have n0_ := am (Kd.R_below (zR HO585.out) hb); have n1_ := am (Kd.R_below (zR HO593.out) hb); have n2_ := am (Kd.R_below (zR HO598.out) hb); have n3_ := am (IsS39.below (by repeat (first | (with_reducible first | exact HI582.out | apply IsS39.alloc | apply IsS39.drewN | apply IsS39.drew | apply IsS39.set_1 | refine IsS39.far ?_ NB582_595.out _) | exact HI582.out)) hb); have n4_ := am (blk_below (zB BK595.out) hb); have n5_ := am (below_step (by repeat (first | (with_reducible first | exact HB.out | apply ba | apply bd | apply be | refine below_set ?_ (IsS39.ge HI582.out) | refine below_set ?_ GE595.out) | exact HB.out)) hb); clear HO585 HO593 HO598 HI582 BK595 HB; have HO585 := n0_; have HO593 := n1_; have HO598 := n2_; have HI582 := n3_; have BK595 := n4_; have HB := n5_; clear n0_ n1_ n2_ n3_ n4_ n5_; (try clear hb); (try clear hb2); (try clear hk); (try clear hi); obtain ⟨Ao25, co25, eo25⟩ := Kd.R_slice HO598.out; subst eo25; obtain ⟨hcz26_0, hcz26_1, hcz26_2, hcz26_3, hcz26_4, hfz26_0, hfz26_1, hfz26_2, hfz26_3, hfz26_4⟩ := b5 BK595.out) | (go_at_call 28; (with_reducible refine (formula_Resolve.calls k _ _ t583 t587 t588 t589 t590 _ _ t591 t600 _ ?side1 ?side2 ?side3 ?side4 A10.out).mono ?_); (case side1 => exact zC (Kd.R_reads' HO585.out).2.2); (case side2 => exact (Kd.R_reads' HO585.out).2.1); (case side3 => exact zC (Kd.R_reads' HO593.out).2.2); (case side4 => exact (Kd.R_reads' HO593.out).2.1); rintro e w27 ⟨rfl, hb⟩; have n0_ := am (Kd.R_below (zR HO585.out) hb); have n1_ := am (Kd.R_below (zR HO593.out) hb); have n2_ := am (Kd.R_below (zR HO598.out) hb); have n3_ := am (IsS39.below (by repeat (first | (with_reducible first | exact HI582.out | apply IsS39.alloc | apply IsS39.drewN | apply IsS39.drew | apply IsS39.set_1 | refine IsS39.far ?_ NB582_595.out _) | exact HI582.out)) hb); have n4_ := am (blk_below (zB BK595.out) hb); have n5_ := am (below_step (by repeat (first | (with_reducible first | exact HB.out | apply ba | apply bd | apply be | refine below_set ?_ (IsS39.ge HI582.out) | refine below_set ?_ GE595.out) | exact HB.out)) hb); clear HO585 HO593 HO598 HI582 BK595 HB; have HO585 := n0_; have HO593 := n1_; have HO598 := n2_; have HI582 := n3_; have BK595 := n4_; have HB := n5_; clear n0_ n1_ n2_ n3_ n4_ n5_; (try clear hb); (try clear hb2); (try clear hk); (try clear hi); obtain ⟨hcz28_0, hcz28_1, hcz28_2, hcz28_3, hcz28_4, hfz28_0, hfz28_1, hfz28_2, hfz28_3, hfz28_4⟩ := b5 BK595.out) | (go_at_call 28; (refine (formula_Resolve.calls k _ _ ([] : List (S59)) t587 t588 t589 t590 _ _ t591 t601 _ ?side1 ?side2 ?side3 ?side4 A12.out).mono ?_); (case side1 => exact Kd.C_nil _ _); (case side2 => exact Nat.le_refl _); (case side3 => exact zC (Kd.R_reads' HO593.out).2.2); (case side4 => exact (Kd.R_reads' HO593.out).2.1); rintro e w29 ⟨rfl, hb⟩; have n0_ := am (Kd.R_below (zR HO585.out) hb); have n1_ := am (Kd.R_below (zR HO593.out) hb); have n2_ := am (Kd.R_below (zR HO598.out) hb); have n3_ := am (IsS39.below (by repeat (first | (with_reducible first | exact HI582.out | apply IsS39.alloc | apply IsS39.drewN | apply IsS39.drew | apply IsS39.set_1 | refine IsS39.far ?_ NB582_595.out _) | exact HI582.out)) hb); have n4_ := am (blk_below (zB BK595.out) hb); have n5_ := am (below_step (by repeat (first | (with_reducible first | exact HB.out | apply ba | apply bd | apply be | refine below_set ?_ (IsS39.ge HI582.out) | refine below_set ?_ GE595.out) | exact HB.out)) hb); clear HO585 HO593 HO598 HI582 BK595 HB; have HO585 := n0_; have HO593 := n1_; have HO598 := n2_; have HI582 := n3_; have BK595 := n4_; have HB := n5_; clear n0_ n1_ n2_ n3_ n4_ n5_; (try clear hb); (try clear hb2); (try clear hk); (try clear hi)))
     go_ret
     exact ⟨by first | rfl | (simp [errW_none, errW_some] <;> rfl) | (simp [*, errW_none, errW_some] <;> rfl), by repeat (first | (with_reducible first | exact HB.out | apply ba | apply bd | apply be | refine below_set ?_ (IsS39.ge HI582.out) | refine below_set ?_ GE595.out) | exact HB.out)⟩
    ·rw [if_neg c11] at H
     exact absurd H (by simp)
   ·rw [if_neg c9] at H
    exact absurd H (by simp)
  ·replace c8 := Bool.eq_false_iff.mpr c8
   subst c8
   have H1 : (none) = some r := by rw [if_neg (show ¬ (false = true) by decide)] at H; exact H
   clear H
   have H := H1
   clear H1
   exact absurd H (by simp)
 ·replace c3 := Bool.eq_false_iff.mpr c3
  subst c3
  have H1 : ((clusterlockslaw08_awake.f k).bind fun t581 => (some t581)) = some r := by rw [if_neg (show ¬ (false = true) by decide)] at H; exact H
  clear H
  have H := H1
  clear H1
  replace H := Option.bind_eq_some_iff.mp H
  obtain ⟨t581, A300, H⟩ := H
  replace H : (some t581) = some r := H
  have A30 := Aside0.mk A300
  clear A300
  obtain rfl := Option.some.inj H
  go_enter Try.func11, Try.ntmps11
  go_wp2_with (first | ((with_reducible refine gate_callee (f := 19) rfl ?_); refine goesL_ (some 8) rfl rfl Try.func19 (by kernel_rfl) rfl #[.slice A0 l0.length c0] rfl mp1 ?_; (with_reducible refine (clusterlocksmill_Light.calls _ _ l0 false _ ?side1 ?side2 A2.out).mono ?_); (case side1 => exact zC HR0.out); (case side2 => exact HC0.out); rintro e w' ⟨rfl, ⟨nd, rfl⟩⟩; refine ⟨_, rfl, ?_⟩) | ((with_reducible refine gate_callee (f := 14) rfl ?_); refine goesL_ (some 10) rfl rfl Try.func14 (by kernel_rfl) rfl #[] rfl mp0 ?_; (with_reducible refine (clusterlockslaw08_awake.calls k  t581 _ A30.out).mono ?_); rintro e w31 ⟨rfl, hb⟩; refine ⟨_, rfl, ?_⟩; have n0_ := am (below_step (zL HB.out) hb); clear HB; have HB := n0_; clear n0_; (try clear hb); (try clear hb2); (try clear hk); (try clear hi)))
  go_ret
  exact ⟨by first | rfl | (simp [errW_none, errW_some] <;> rfl) | (simp [*, errW_none, errW_some] <;> rfl), zL HB.out⟩

/-- THE ONE PURE STATEMENT of clusterlockslaw08_FormulaCatalogs: yours. -/
def clusterlockslaw08_FormulaCatalogs.Pure : Prop := ∀ (l0 : List Int), l0.length ≤ maxLen → l0.length * 8 ≤ 140737488351232 → (∀ x ∈ l0, (Lit.int .i64 x).wf = true) → ∃ k, clusterlockslaw08_FormulaCatalogs.f k l0 = some true
theorem clusterlockslaw08_FormulaCatalogs.walk (P : clusterlockslaw08_FormulaCatalogs.Pure) (a0 : Option Addr) (len0 cap0 : Nat) (z0 : List Int) (w : World) (w0 : (a0 = none ∧ len0 = 0 ∧ cap0 = 0 ∧ z0 = []) ∨ ∃ x, a0 = some x ∧ len0 ≤ cap0 ∧ cap0 ≤ maxLen ∧ z0.length = cap0 ∧ (∀ i, i < z0.length → w.cell? (x.add i) = some (.int .i64 (z0.getD i 0))) ∧ ∀ n ∈ z0, (Lit.int .i64 n).wf = true) (y0 : len0 * 8 ≤ 140737488351232) :
  Calls Try.prog 11 #[.slice a0 len0 cap0] w fun e w' => e = .returned (.bool true) ∧ Below w.heap.size w w' := by
 obtain ⟨l0, rfl, hr0, hm0, hw0, hc0⟩ := ReadsInt.ofRowC w0
 obtain ⟨k, h⟩ := P l0 hm0 y0 hw0
 refine (clusterlockslaw08_FormulaCatalogs.calls k _ _ l0 true w (Kd.C_of_reads (d := (0 : Int)) (h1 := fun _ => rfl) hr0) hc0 h).mono ?_
 rintro e w' ⟨rfl, hd⟩
 exact ⟨rfl, hd⟩

end Go.Proofs.Ytefbcebpokoinaa.Y

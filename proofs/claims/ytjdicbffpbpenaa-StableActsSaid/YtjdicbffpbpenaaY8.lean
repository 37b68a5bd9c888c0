-- Laid by a program of this session's (xprint.py, which runs the kit's print.py with patches of its own). Lean checks it.
import Derived.Test.YtjdicbffpbpenaaY0
import Derived.Test.YtjdicbffpbpenaaY7
namespace Go.Proofs.Ytjdicbffpbpenaa.Y
open Go.RowKit Go.Proofs.YtjdicbffpbpenaaW.PrintWords Go.Proofs.YtjdicbffpbpenaaW.PrintLast Go.Proofs.YtjdicbffpbpenaaW.PrintMore
attribute [local go_sem] max2_int min2_int max_two min_two max_three min_three max_four min_four   -- for this text's walks alone
set_option linter.unusedVariables false
set_option linter.unusedSimpArgs false

/-! ### clusterlocksref26_Torn: function 13 -/
def clusterlocksref26_Torn.f (k : Nat) (l0_0 : List Int) (l0_1 : List Int) (l1 : List Int) (a2 : Int) : Option (List Int × List Int × Int) := (clusterlocksref26_next.f k l0_0 l0_1 l1).bind fun bt324 => (if bt324.2.2 = 0 then (if 0 ≤ (mx (mn a2 (bt324.1.length : Int)) 0) then (if (mx (mn a2 (bt324.1.length : Int)) 0) ≤ (bt324.1.length : Int) then ((some (bt324.1.take ((mx (mn a2 (bt324.1.length : Int)) 0) : Int).toNat : List Int)).bind fun y329 => (if ([] : List Int).length + l0_0.length < 140737488355328 then (if ([] : List Int).length + l0_1.length < 140737488355328 then (if bt324.2.1 = true then (some (y329, (([] : List Int) ++ l0_1), 0)) else (some ((([] : List Int) ++ l0_0), y329, 0))) else (none)) else (none))) else (none)) else (none)) else (some (([] : List Int), ([] : List Int), bt324.2.2)))
theorem clusterlocksref26_Torn.mono : ∀ a0 a1 a2 a3 k, LeO (clusterlocksref26_Torn.f k a0 a1 a2 a3) (clusterlocksref26_Torn.f (k + 1) a0 a1 a2 a3) := by
 intro a0 a1 a2 a3 k
 unfold clusterlocksref26_Torn.f
 repeat' first
   | (with_reducible exact clusterlocksref26_next.mono _ _ _ _)
   | (with_reducible exact LeO.refl _)
   | (with_reducible exact LeO.none _)
   | (with_reducible refine LeO.ite ?_ ?_)
   | (with_reducible refine LeO.bind ?_ (fun _ => ?_))
   | exact clusterlocksref26_next.mono _ _ _ _
   | exact LeO.none _
   | refine LeO.ite ?_ ?_
   | refine LeO.bind ?_ (fun _ => ?_)
def clusterlocksref26_Torn.T5 : Bool × List (List Nat × List Nat) := (true, [([], []), ([0], [0]), ([1], [1]), ([], []), ([3], [3]), ([4, 2], [4]), ([2, 5], [2, 5]), ([], []), ([7, 6, 5, 0, 1, 2, 3, 4, 5, 6, 7], [6, 7])])
def clusterlocksref26_Torn.B5 : List Nat := [0, 1, 3, 0, 8, 31, 63, 0, 255]
theorem clusterlocksref26_Torn.tab5 : rtab .any (opsOf Try.f13 5) = clusterlocksref26_Torn.T5 := by kernel_rfl
theorem clusterlocksref26_Torn.bits5 : waitsOk clusterlocksref26_Torn.T5.2 clusterlocksref26_Torn.B5 = true := by kernel_rfl
set_option maxHeartbeats 8000000 in
set_option maxRecDepth 100000 in
theorem clusterlocksref26_Torn.calls (k : Nat) (A0_0 : Option Addr) (c0_0 : Nat) (l0_0 : List Int) (A0_1 : Option Addr) (c0_1 : Nat) (l0_1 : List Int) (A1 : Option Addr) (c1 : Nat) (l1 : List Int) (a2 : Int) (r1 : List Int) (r2 : List Int) (r3 : Int) (w : World) (hr0_0 : Kd.C (Kd.int .u8) w A0_0 l0_0.length l0_0) (hc0_0 : l0_0.length ≤ c0_0) (hr0_1 : Kd.C (Kd.int .u8) w A0_1 l0_1.length l0_1) (hc0_1 : l0_1.length ≤ c0_1) (hr1 : Kd.C (Kd.int .u8) w A1 l1.length l1) (hc1 : l1.length ≤ c1) (h : clusterlocksref26_Torn.f k l0_0 l0_1 l1 a2 = some (r1, r2, r3)) :
  Calls Try.prog 13 #[.agg #[.slice A0_0 l0_0.length c0_0, .slice A0_1 l0_1.length c0_1], .slice A1 l1.length c1, .int .i64 a2] w fun e w' => ∃ v0_ v1_ : Value, e = .returned (.tuple #[.agg #[v0_, v1_], .int .i64 r3]) ∧ Kd.R (Kd.int .u8) 5 w' w.heap.size (fun k_ => some k_ ≠ (v1_ : Value).ownBlock) v0_ r1 ∧ Kd.R (Kd.int .u8) 5 w' w.heap.size (fun k_ => some k_ ≠ (v0_ : Value).ownBlock) v1_ r2 ∧ Below w.heap.size w w' := by
 have hu24 := Try.underlying24
 have HR0_0 := Aside0.mk hr0_0
 have HC0_0 := Aside0.mk hc0_0
 clear hr0_0 hc0_0
 have HR0_1 := Aside0.mk hr0_1
 have HC0_1 := Aside0.mk hc0_1
 clear hr0_1 hc0_1
 have HR1 := Aside0.mk hr1
 have HC1 := Aside0.mk hc1
 clear hr1 hc1
 have HB := am (Below.refl w.heap.size w)
 have H : ((clusterlocksref26_next.f k l0_0 l0_1 l1).bind fun bt324 => (if bt324.2.2 = 0 then (if 0 ≤ (mx (mn a2 (bt324.1.length : Int)) 0) then (if (mx (mn a2 (bt324.1.length : Int)) 0) ≤ (bt324.1.length : Int) then ((some (bt324.1.take ((mx (mn a2 (bt324.1.length : Int)) 0) : Int).toNat : List Int)).bind fun y329 => (if ([] : List Int).length + l0_0.length < 140737488355328 then (if ([] : List Int).length + l0_1.length < 140737488355328 then (if bt324.2.1 = true then (some (y329, (([] : List Int) ++ l0_1), 0)) else (some ((([] : List Int) ++ l0_0), y329, 0))) else (none)) else (none))) else (none)) else (none)) else (some (([] : List Int), ([] : List Int), bt324.2.2)))) = some (r1, r2, r3) := h
 clear h
 replace H := Option.bind_eq_some_iff.mp H
 obtain ⟨⟨t324, t327, t328⟩, A40, H⟩ := H
 replace H : (if t328 = 0 then (if 0 ≤ (mx (mn a2 (t324.length : Int)) 0) then (if (mx (mn a2 (t324.length : Int)) 0) ≤ (t324.length : Int) then ((some (t324.take ((mx (mn a2 (t324.length : Int)) 0) : Int).toNat : List Int)).bind fun y329 => (if ([] : List Int).length + l0_0.length < 140737488355328 then (if ([] : List Int).length + l0_1.length < 140737488355328 then (if t327 = true then (some (y329, (([] : List Int) ++ l0_1), 0)) else (some ((([] : List Int) ++ l0_0), y329, 0))) else (none)) else (none))) else (none)) else (none)) else (some (([] : List Int), ([] : List Int), t328))) = some (r1, r2, r3) := H
 have A4 := Aside0.mk A40
 clear A40
 by_cases c5 : t328 = 0
 ·rw [if_pos c5] at H
  have c5b0 : (t328 == 0) = true := beq_iff_eq.mpr c5
  have c5b1 : (t328 != 0) = false := bne_eq_false_iff_eq.mpr c5
  clear c5
  obtain ⟨ji6, hji6⟩ : ∃ j_ : Int, (mn a2 (t324.length : Int)) = j_ := ⟨_, rfl⟩
  replace H : (if 0 ≤ (mx (ji6) 0) then (if (mx (ji6) 0) ≤ (t324.length : Int) then ((some (t324.take ((mx (ji6) 0) : Int).toNat : List Int)).bind fun y329 => (if ([] : List Int).length + l0_0.length < 140737488355328 then (if ([] : List Int).length + l0_1.length < 140737488355328 then (if t327 = true then (some (y329, (([] : List Int) ++ l0_1), 0)) else (some ((([] : List Int) ++ l0_0), y329, 0))) else (none)) else (none))) else (none)) else (none)) = some (r1, r2, r3) := by first | (rw [hji6] at H; exact H) | (simp only [hji6] at H ⊢; exact H)
  (try rw [hji6] at A4)
  have hji6_ : (if (t324.length : Int) < a2 then (t324.length : Int) else a2) = ji6 := hji6
  obtain ⟨ji7, hji7⟩ : ∃ j_ : Int, (mx (ji6) 0) = j_ := ⟨_, rfl⟩
  replace H : (if 0 ≤ (ji7) then (if (ji7) ≤ (t324.length : Int) then ((some (t324.take ((ji7) : Int).toNat : List Int)).bind fun y329 => (if ([] : List Int).length + l0_0.length < 140737488355328 then (if ([] : List Int).length + l0_1.length < 140737488355328 then (if t327 = true then (some (y329, (([] : List Int) ++ l0_1), 0)) else (some ((([] : List Int) ++ l0_0), y329, 0))) else (none)) else (none))) else (none)) else (none)) = some (r1, r2, r3) := by first | (rw [hji7] at H; exact H) | (simp only [hji7] at H ⊢; exact H)
  (try rw [hji7] at A4)
  have hji7_ : (if (ji6) < 0 then 0 else (ji6)) = ji7 := hji7
  by_cases c8 : 0 ≤ (ji7)
  ·rw [if_pos c8] at H
   have c8b0 := eq_true c8
   have c8b1 : decide (0 ≤ (ji7)) = true := decide_eq_true c8
   clear c8
   by_cases c9 : (ji7) ≤ (t324.length : Int)
   ·rw [if_pos c9] at H
    have c9b0 := eq_true c9
    have c9b1 : decide ((ji7) ≤ (t324.length : Int)) = true := decide_eq_true c9
    clear c9
    obtain ⟨y329, hy329⟩ : ∃ y_ : List Int, y_ = (t324.take ((ji7) : Int).toNat) := ⟨_, rfl⟩
    replace H : (if ([] : List Int).length + l0_0.length < 140737488355328 then (if ([] : List Int).length + l0_1.length < 140737488355328 then (if t327 = true then (some (y329, (([] : List Int) ++ l0_1), 0)) else (some ((([] : List Int) ++ l0_0), y329, 0))) else (none)) else (none)) = some (r1, r2, r3) := by first | (rw [hy329]; with_reducible exact H) | (have H2_ := (Option.bind_some _ _).symm.trans H; rw [hy329]; with_reducible exact H2_) | (have H2_ := (Option.bind_some _ _).symm.trans H; with_reducible exact H2_) | with_reducible exact H | (rw [hy329]; exact H) | exact H
    have Ny329 := Aside0.mk hy329
    clear hy329
    by_cases c10 : ([] : List Int).length + l0_0.length < 140737488355328
    ·rw [if_pos c10] at H
     have LMc10 := Aside0.mk c10
     clear c10
     obtain ⟨y332, hy332⟩ : ∃ y_ : List Int, y_ = (([] : List Int) ++ l0_0) := ⟨_, rfl⟩
     replace H : (if ([] : List Int).length + l0_1.length < 140737488355328 then (if t327 = true then (some (y329, (([] : List Int) ++ l0_1), 0)) else (some (y332, y329, 0))) else (none)) = some (r1, r2, r3) := by first | (rw [hy332]; with_reducible exact H) | (have H2_ := (Option.bind_some _ _).symm.trans H; rw [hy332]; with_reducible exact H2_) | (have H2_ := (Option.bind_some _ _).symm.trans H; with_reducible exact H2_) | with_reducible exact H | (rw [hy332]; exact H) | exact H
     have Ny332 := Aside0.mk hy332
     clear hy332
     by_cases c11 : ([] : List Int).length + l0_1.length < 140737488355328
     ·rw [if_pos c11] at H
      have LMc11 := Aside0.mk c11
      clear c11
      obtain ⟨y335, hy335⟩ : ∃ y_ : List Int, y_ = (([] : List Int) ++ l0_1) := ⟨_, rfl⟩
      replace H : (if t327 = true then (some (y329, y335, 0)) else (some (y332, y329, 0))) = some (r1, r2, r3) := by first | (rw [hy335]; with_reducible exact H) | (have H2_ := (Option.bind_some _ _).symm.trans H; rw [hy335]; with_reducible exact H2_) | (have H2_ := (Option.bind_some _ _).symm.trans H; with_reducible exact H2_) | with_reducible exact H | (rw [hy335]; exact H) | exact H
      have Ny335 := Aside0.mk hy335
      clear hy335
      by_cases c12 : t327 = true
      ·subst c12
       have H1 : (some (y329, y335, 0)) = some (r1, r2, r3) := by rw [if_pos rfl] at H; exact H
       clear H
       have H := H1
       clear H1
       simp only [Option.some.injEq, Prod.mk.injEq] at H
       obtain ⟨rfl, rfl, rfl⟩ := H
       go_enter Try.func13, Try.ntmps13
       try go_wp2_with (first | ((with_reducible refine gate_dst (N := 3) rfl ?_); refine box_event ?hg (N := 3) ?hd (cs := #[.slice A0_0 l0_0.length c0_0, .slice A0_1 l0_1.length c0_1]) (t := 24) ?hr ?_; (case hd => rfl); (case hg => rfl); (case hr => first | (go_simp; done) | (go_simp; rfl)); intro gb322 hg w13 hbox hb; have n0_ := am (below_step (zL HB.out) hb); have n1_ := am (hbox); have n2_ := am (zS hg HB.out); have n3_ := am (zS hg HB.out); clear HB; have HB := n0_; have BK322 := n1_; have GW322 := n2_; have GE322 := n3_; clear n0_ n1_ n2_ n3_; clear hb hbox hg) | ((with_reducible refine gate_dst (N := 6) rfl ?_); refine box_event ?hg (N := 6) ?hd (cs := #[.slice none 0 0, .slice none 0 0]) (t := 24) ?hr ?_; (case hd => rfl); (case hg => rfl); (case hr => first | (go_simp; done) | (go_simp; rfl)); intro gb323 hg w14 hbox hb; have n0_ := am (blk_below (zB BK322.out) hb); have n1_ := am (below_step (zL HB.out) hb); have n2_ := am (hbox); have n3_ := am (zS hg HB.out); have n4_ := am (zS hg HB.out); have n5_ := am (zN hg BK322.out); have n6_ := am (zM hg BK322.out); clear BK322 HB; have BK322 := n0_; have HB := n1_; have BK323 := n2_; have GW323 := n3_; have GE323 := n4_; have NB322_323 := n5_; have NB323_322 := n6_; clear n0_ n1_ n2_ n3_ n4_ n5_ n6_; clear hb hbox hg; have hnb15 := NB322_323.out; have hnc15 := NB323_322.out; have hcz16_0 : w14.cell? ⟨gb322, 0, none⟩ = some (.slice A0_0 l0_0.length c0_0) := (blk_cell BK322.out 0).trans rfl; have hcz16_1 : w14.cell? ⟨gb322, 1, none⟩ = some (.slice A0_1 l0_1.length c0_1) := (blk_cell BK322.out 1).trans rfl; have hfz16_0 := blk_frozen BK322.out 0; have hfz16_1 := blk_frozen BK322.out 1) | ((with_reducible refine gate_callee (f := 27) rfl ?_); refine goesL_ (some 15) rfl rfl Try.func27 (by kernel_rfl) rfl #[.agg #[.slice A0_0 l0_0.length c0_0, .slice A0_1 l0_1.length c0_1], .slice A1 l1.length c1] rfl (by (try simp only [List.map_toArray, List.map_cons, List.map_nil]); first | done | rfl | (simp only [List.length_drop, List.length_take]; rfl)) ?_; (with_reducible refine (clusterlocksref26_next.calls k _ _ l0_0 _ _ l0_1 _ _ l1 t324 true t328 _ ?side1 ?side2 ?side3 ?side4 ?side5 ?side6 A4.out).mono ?_); (case side1 => exact zC (Kd.C_below HR0_0.out HB.out)); (case side2 => exact HC0_0.out); (case side3 => exact zC (Kd.C_below HR0_1.out HB.out)); (case side4 => exact HC0_1.out); (case side5 => exact zC (Kd.C_below HR1.out HB.out)); (case side6 => exact HC1.out); rintro e w17 ⟨v325, rfl, ho0, hb⟩; refine ⟨_, rfl, ?_⟩; have n0_ := am (Kd.R_lower ho0 (below_size (zL HB.out))); have n1_ := am (blk_below (zB BK322.out) hb); have n2_ := am (blk_below (zB BK323.out) hb); have n3_ := am (below_step (zL HB.out) hb); clear BK322 BK323 HB; have HO326 := n0_; have BK322 := n1_; have BK323 := n2_; have HB := n3_; clear n0_ n1_ n2_ n3_; (try clear hb); (try clear hb2); (try clear hk); (try clear hi); (try clear ho0); obtain ⟨Ao18, co18, eo18⟩ := Kd.R_slice HO326.out; subst eo18; have q19 : ((ji7) : Int) ≤ ((t324.length : Int) : Int) := of_decide_eq_true (by first | (with_reducible assumption) | assumption); obtain ⟨i019, hi019, _, hsz19, _⟩ := info_parts info5; have hcut19 := cut_to (P := Try.prog) 22 5 .i64 Try.underlying22 hi019 Ao18 t324.length co18 (ji7) (of_decide_eq_true (by first | (with_reducible assumption) | assumption)) q19 (Kd.R_reads' HO326.out).2.1; have hr19 := Kd.R_take (m := ((ji7) : Int).toNat) HO326.out (by omega); have hy19 : y329.length = ((ji7) : Int).toNat := (by rw [Ny329.out, List.length_take]; omega); rw [← Ny329.out] at hr19; rw [← hy19] at hr19 hcut19; clear hy19 hi019 hsz19 HO326; have HO331 := Aside0.mk hr19; clear hr19; replace q19 := eq_true q19))
       have n0_ := am (Kd.R_drew HO331.out)
       have n1_ := am (blk_drew BK322.out)
       have n2_ := am (blk_drew BK323.out)
       have n3_ := am (below_drew1 HB.out)
       clear HO331 BK322 BK323 HB
       have HO331 := n0_
       have BK322 := n1_
       have BK323 := n2_
       have HB := n3_
       clear n0_ n1_ n2_ n3_
       refine start_ (n := 9) (S := fun w' => w'.cell? ⟨gb322, 0, none⟩ = some (.slice A0_0 l0_0.length c0_0) ∧ w'.cell? ⟨gb322, 1, none⟩ = some (.slice A0_1 l0_1.length c0_1)) (ds := []) #[false, false, false, false, false, false, false, false, false] (by kernel_rfl) rfl rfl ⟨(blk_cell BK322.out 0).trans rfl, (blk_cell BK322.out 1).trans rfl⟩ (fun hHeld => ?_); refine with_tabW clusterlocksref26_Torn.tab5 clusterlocksref26_Torn.bits5 (fun HT_ HW_ => ?_)
       generalize w17.drew = w20 at HO331 BK322 BK323 HB hHeld ⊢
       refine pure_ (i := 0) (N := some 30) (v := ?_) (a' := ?_) #[true, false, false, false, false, false, false, false, false] rfl rfl (any_of HT_.out (by kernel_rfl)) (fun _ _ _ h => h) (Or.inl ⟨by rfl, ?_⟩) ?_ ?_
       rotate_left
       ·intro w'
        go_simp
        with_reducible rfl
       rotate_left
       ·simp only [Act.put, List.setIfInBounds_toArray, List.set_cons_zero, List.set_cons_succ, i64_w, i32_w]
        rfl
       refine pure_ (i := 3) (N := some 33) (v := ?_) (a' := ?_) #[true, false, false, true, false, false, false, false, false] rfl rfl (any_of HT_.out (by kernel_rfl)) (fun _ _ _ h => h) (Or.inl ⟨by rfl, ?_⟩) ?_ ?_
       rotate_left
       ·intro w'
        go_simp
        with_reducible rfl
       rotate_left
       ·simp only [Act.put, List.setIfInBounds_toArray, List.set_cons_zero, List.set_cons_succ, i64_w, i32_w]
        rfl
       refine take_ (i := 1) (N := some 31) (v := ?_) (a' := ?_) #[true, true, false, true, false, false, false, false, false] rfl rfl (take_ofW HT_.out HW_.out (by kernel_rfl)) (fun _ _ _ h => h) (Or.inl ⟨by rfl, ?_⟩) hHeld ?_ ?_
       rotate_left
       ·rintro w' ⟨s0, s1⟩
        go_simp
        with_reducible rfl
       rotate_left
       ·simp only [Act.put, List.setIfInBounds_toArray, List.set_cons_zero, List.set_cons_succ, i64_w, i32_w]
        rfl
       refine take_ (i := 4) (N := some 34) (v := ?_) (a' := ?_) #[true, true, false, true, true, false, false, false, false] rfl rfl (take_ofW HT_.out HW_.out (by kernel_rfl)) (fun _ _ _ h => h) (Or.inl ⟨by rfl, ?_⟩) hHeld ?_ ?_
       rotate_left
       ·rintro w' ⟨s0, s1⟩
        go_simp
        with_reducible rfl
       rotate_left
       ·simp only [Act.put, List.setIfInBounds_toArray, List.set_cons_zero, List.set_cons_succ, i64_w, i32_w]
        rfl
       refine join_ (σ := Value × Value × Nat) 1 #[true, true, true, true, true, true, true, true, false] (fun s_ => [(32, s_.1), (35, s_.2.1), (11, .pointer (some ⟨s_.2.2, 0, none⟩)), (36, .agg #[s_.1, s_.2.1])]) (fun s_ w' => (w'.cell? ⟨gb322, 0, none⟩ = some (.slice A0_0 l0_0.length c0_0) ∧ w'.cell? ⟨gb322, 1, none⟩ = some (.slice A0_1 l0_1.length c0_1)) ∧ (Kd.R (Kd.int .u8) 5 w' w.heap.size (fun k_ => some k_ ≠ (s_.1 : Value).ownBlock ∧ some k_ ≠ (s_.2.1 : Value).ownBlock) (.slice Ao18 y329.length co18) y329) ∧ (Kd.R (Kd.int .u8) 5 w' w.heap.size (fun k_ => some k_ ≠ (.slice Ao18 y329.length co18 : Value).ownBlock ∧ some k_ ≠ (s_.2.1 : Value).ownBlock) s_.1 y332) ∧ (Kd.R (Kd.int .u8) 5 w' w.heap.size (fun k_ => some k_ ≠ (.slice Ao18 y329.length co18 : Value).ownBlock ∧ some k_ ≠ (s_.1 : Value).ownBlock) s_.2.1 y335) ∧ (w'.heap[gb322]? = some (.cells #[.slice A0_0 l0_0.length c0_0, .slice A0_1 l0_1.length c0_1] 24 (0, 0))) ∧ (w'.heap[gb323]? = some (.cells #[.slice none 0 0, .slice none 0 0] 24 (0, 0))) ∧ (w'.heap[s_.2.2]? = some (.cells #[.slice none 0 0, .slice none 0 0] 24 (0, 0))) ∧ (w.heap.size ≤ s_.2.2) ∧ (w.heap.size ≤ s_.2.2) ∧ (gb322 ≠ s_.2.2) ∧ (s_.2.2 ≠ gb322) ∧ (gb323 ≠ s_.2.2) ∧ (s_.2.2 ≠ gb323) ∧ (Below w.heap.size w w')) ?_ ?_
       rotate_left
       ·intro hCont
        refine two_ (i := 2) (j := 7) (Ni := some 32) (Nj := some 11) #[true, true, true, true, true, false, false, false, false] #[true, true, false, true, true, false, false, true, false] rfl rfl rfl rfl (two_of HT_.out (by kernel_rfl)) (by decide) (by decide) (fun K hK => ?_) (fun K hK => ?_)
        ·skip
         refine Kd.R_append_rows_step (Kd.int .u8) (w0 := w) w.heap.size rfl (.const (.slice none 0 0)) (.tmp 31) 22 5 (.int .u8 0) 1 rfl Try.underlying22 info5 rfl (by decide) (by omega) (.slice none 0 0) ([] : List Int) l0_0 _ _ _ (fun k_ => some k_ ≠ (.slice Ao18 y329.length co18 : Value).ownBlock) (fun _ => False) rfl rfl ?aO ?aR (fun _ _ h => h) (fun _ h => h.elim) ?aF ?aB ?aS ?aL ?_
         (case aR => exact zC (Kd.C_below HR0_0.out HB.out))
         (case aB => exact (by repeat (first | (with_reducible first | exact HB.out | apply ba | apply bd | apply be | refine below_set ?_ GE322.out | refine below_set ?_ GE323.out) | exact HB.out)))
         (case aF => exact (fun k_ hk => Kd.fresh' (Kd.R_lt (zR HO331.out)) k_ hk))
         (case aO => exact ((Kd.R_nil _ _ _ _ (fun k_ => some k_ ≠ (.slice Ao18 y329.length co18 : Value).ownBlock))))
         (case aS => exact (below_size (zL HB.out)))
         (case aL => have := LMc10.out; omega)
         intro v333 w21 ho hb hg hat
         rw [← Ny332.out] at ho
         have n0_ := am (blk_grown (g := gb322) (o := .cells #[.slice A0_0 l0_0.length c0_0, .slice A0_1 l0_1.length c0_1] 24 (0, 0)) (zB BK322.out) hg (by simp [Value.ownBlock]))
         have n1_ := am (blk_grown (g := gb323) (o := .cells #[.slice none 0 0, .slice none 0 0] 24 (0, 0)) (zB BK323.out) hg (by simp [Value.ownBlock]))
         have n2_ := am (Kd.R_after (Kd.R_apart_nil (zR HO331.out)) hg hat)
         have n3_ := am (hb)
         have n4_ := am (ho)
         clear BK322 BK323 HO331 HB
         have BK322 := n0_
         have BK323 := n1_
         have HO331 := n2_
         have HB := n3_
         have HO334 := n4_
         clear n0_ n1_ n2_ n3_ n4_
         clear ho hb hg hat
         refine hK.out _ _ ⟨(blk_cell BK322.out 0).trans rfl, (blk_cell BK322.out 1).trans rfl⟩ (fun hHeld => ?_)
         clear hK K
         refine norm_ (a' := ?_) ?_ ?_
         rotate_left
         ·show Act.put _ (some 32) _ = _
          simp only [Act.put, List.setIfInBounds_toArray, List.set_cons_zero, List.set_cons_succ, i64_w, i32_w]
          rfl
         refine two_ (i := 5) (j := 7) (Ni := some 35) (Nj := some 11) #[true, true, true, true, true, true, false, false, false] #[true, true, true, true, true, false, false, true, false] rfl rfl rfl rfl (two_of HT_.out (by kernel_rfl)) (by decide) (by decide) (fun K hK => ?_) (fun K hK => ?_)
         ·skip
          refine Kd.R_append_rows_step (Kd.int .u8) (w0 := w) w.heap.size rfl (.const (.slice none 0 0)) (.tmp 34) 22 5 (.int .u8 0) 1 rfl Try.underlying22 info5 rfl (by decide) (by omega) (.slice none 0 0) ([] : List Int) l0_1 _ _ _ (fun k_ => some k_ ≠ (.slice Ao18 y329.length co18 : Value).ownBlock ∧ some k_ ≠ (v333 : Value).ownBlock) (fun _ => False) rfl rfl ?aO ?aR (fun _ _ h => h) (fun _ h => h.elim) ?aF ?aB ?aS ?aL ?_
          (case aR => exact zC (Kd.C_below HR0_1.out HB.out))
          (case aB => exact (by repeat (first | (with_reducible first | exact HB.out | apply ba | apply bd | apply be | refine below_set ?_ GE322.out | refine below_set ?_ GE323.out) | exact HB.out)))
          (case aF => exact (fun k_ hk => ⟨Kd.fresh' (Kd.R_lt (zR HO331.out)) k_ hk, Kd.fresh' (Kd.R_lt (zR HO334.out)) k_ hk⟩))
          (case aO => exact ((Kd.R_nil _ _ _ _ (fun k_ => some k_ ≠ (.slice Ao18 y329.length co18 : Value).ownBlock ∧ some k_ ≠ (v333 : Value).ownBlock))))
          (case aS => exact (below_size (zL HB.out)))
          (case aL => have := LMc11.out; omega)
          intro v336 w22 ho hb hg hat
          rw [← Ny335.out] at ho
          have n0_ := am (blk_grown (g := gb322) (o := .cells #[.slice A0_0 l0_0.length c0_0, .slice A0_1 l0_1.length c0_1] 24 (0, 0)) (zB BK322.out) hg (by simp [Value.ownBlock]))
          have n1_ := am (blk_grown (g := gb323) (o := .cells #[.slice none 0 0, .slice none 0 0] 24 (0, 0)) (zB BK323.out) hg (by simp [Value.ownBlock]))
          have n2_ := am (Kd.R_after (Kd.R_apart_nil (zR HO331.out)) hg hat)
          have n3_ := am (Kd.R_after (Kd.R_apart_nil (zR HO334.out)) hg hat)
          have n4_ := am (hb)
          have n5_ := am (ho)
          clear BK322 BK323 HO331 HO334 HB
          have BK322 := n0_
          have BK323 := n1_
          have HO331 := n2_
          have HO334 := n3_
          have HB := n4_
          have HO337 := n5_
          clear n0_ n1_ n2_ n3_ n4_ n5_
          clear ho hb hg hat
          obtain ⟨Ao23, co23, eo23⟩ := Kd.R_slice HO337.out
          (first | subst eo23 | (injection eo23 with f1_ f2_ f3_; have f4_ := f1_.symm; have f5_ := f3_.symm; clear f1_ f2_ f3_; subst f4_; subst f5_))
          obtain ⟨Ao24, co24, eo24⟩ := Kd.R_slice HO334.out
          (first | subst eo24 | (injection eo24 with f1_ f2_ f3_; have f4_ := f1_.symm; have f5_ := f3_.symm; clear f1_ f2_ f3_; subst f4_; subst f5_))
          refine hK.out _ _ ⟨(blk_cell BK322.out 0).trans rfl, (blk_cell BK322.out 1).trans rfl⟩ (fun hHeld => ?_)
          clear hK K
          refine norm_ (a' := ?_) ?_ ?_
          rotate_left
          ·show Act.put _ (some 35) _ = _
           simp only [Act.put, List.setIfInBounds_toArray, List.set_cons_zero, List.set_cons_succ, i64_w, i32_w]
           rfl
          refine pure_ (i := 6) (N := some 36) (v := ?_) (a' := ?_) #[true, true, true, true, true, true, true, false, false] rfl rfl (any_of HT_.out (by kernel_rfl)) (fun _ _ _ h => h) (Or.inl ⟨by rfl, ?_⟩) ?_ ?_
          rotate_left
          ·intro w'
           go_simp
           with_reducible rfl
          rotate_left
          ·simp only [Act.put, List.setIfInBounds_toArray, List.set_cons_zero, List.set_cons_succ, i64_w, i32_w]
           rfl
          refine one_ (i := 7) (N := some 11) #[true, true, true, true, true, true, true, true, false] rfl rfl (one_of HT_.out (by kernel_rfl)) (by decide) (fun K hK => ?_)
          refine box_step ?hg (N := 11) ?hd (cs := #[.slice none 0 0, .slice none 0 0]) (t := 24) ?hr ?_; (case hd => rfl); (case hg => rfl); (case hr => first | (go_simp; done) | (go_simp; rfl))
          intro gb338 hg w25 hbox hb
          have n0_ := am (Kd.R_below (zR HO331.out) hb)
          have n1_ := am (Kd.R_below (zR HO334.out) hb)
          have n2_ := am (Kd.R_below (zR HO337.out) hb)
          have n3_ := am (blk_below (zB BK322.out) hb)
          have n4_ := am (blk_below (zB BK323.out) hb)
          have n5_ := am (below_step (zL HB.out) hb)
          have n6_ := am (hbox)
          have n7_ := am (zS hg HB.out)
          have n8_ := am (zS hg HB.out)
          have n9_ := am (zN hg BK322.out)
          have n10_ := am (zM hg BK322.out)
          have n11_ := am (zN hg BK323.out)
          have n12_ := am (zM hg BK323.out)
          clear HO331 HO334 HO337 BK322 BK323 HB
          have HO331 := n0_
          have HO334 := n1_
          have HO337 := n2_
          have BK322 := n3_
          have BK323 := n4_
          have HB := n5_
          have BK338 := n6_
          have GW338 := n7_
          have GE338 := n8_
          have NB322_338 := n9_
          have NB338_322 := n10_
          have NB323_338 := n11_
          have NB338_323 := n12_
          clear n0_ n1_ n2_ n3_ n4_ n5_ n6_ n7_ n8_ n9_ n10_ n11_ n12_
          clear hb hbox hg
          refine hK.out _ _ ⟨(blk_cell BK322.out 0).trans rfl, (blk_cell BK322.out 1).trans rfl⟩ (fun hHeld => ?_)
          clear hK K
          refine norm_ (a' := ?_) ?_ ?_
          rotate_left
          ·show Act.put _ (some 11) _ = _
           simp only [Act.put, List.setIfInBounds_toArray, List.set_cons_zero, List.set_cons_succ, i64_w, i32_w]
           rfl
          exact norm_ (by simp only [putAll, Act.put, List.setIfInBounds_toArray, List.set_cons_zero, List.set_cons_succ]) (hCont (.slice Ao24 y332.length co24, .slice Ao23 y335.length co23, gb338) _ ⟨hHeld, (by exact zR <| Kd.R_mono HO331.out (fun _ hk => ⟨hk.1.2, hk.2⟩)), (zR HO334.out), (zR HO337.out), (zB BK322.out), (zB BK323.out), (zB BK338.out), GW338.out, GE338.out, NB322_338.out, NB338_322.out, NB323_338.out, NB338_323.out, (by repeat (first | (with_reducible first | exact HB.out | apply ba | apply bd | apply be | refine below_set ?_ GE322.out | refine below_set ?_ GE323.out | refine below_set ?_ GE338.out) | exact HB.out))⟩)
         ·skip
          refine box_step ?hg (N := 11) ?hd (cs := #[.slice none 0 0, .slice none 0 0]) (t := 24) ?hr ?_; (case hd => rfl); (case hg => rfl); (case hr => first | (go_simp; done) | (go_simp; rfl))
          intro gb338 hg w22 hbox hb
          have n0_ := am (Kd.R_below (zR HO331.out) hb)
          have n1_ := am (Kd.R_below (zR HO334.out) hb)
          have n2_ := am (blk_below (zB BK322.out) hb)
          have n3_ := am (blk_below (zB BK323.out) hb)
          have n4_ := am (below_step (zL HB.out) hb)
          have n5_ := am (hbox)
          have n6_ := am (zS hg HB.out)
          have n7_ := am (zS hg HB.out)
          have n8_ := am (zN hg BK322.out)
          have n9_ := am (zM hg BK322.out)
          have n10_ := am (zN hg BK323.out)
          have n11_ := am (zM hg BK323.out)
          clear HO331 HO334 BK322 BK323 HB
          have HO331 := n0_
          have HO334 := n1_
          have BK322 := n2_
          have BK323 := n3_
          have HB := n4_
          have BK338 := n5_
          have GW338 := n6_
          have GE338 := n7_
          have NB322_338 := n8_
          have NB338_322 := n9_
          have NB323_338 := n10_
          have NB338_323 := n11_
          clear n0_ n1_ n2_ n3_ n4_ n5_ n6_ n7_ n8_ n9_ n10_ n11_
          clear hb hbox hg
          refine hK.out _ _ ⟨(blk_cell BK322.out 0).trans rfl, (blk_cell BK322.out 1).trans rfl⟩ (fun hHeld => ?_)
          clear hK K
          refine norm_ (a' := ?_) ?_ ?_
          rotate_left
          ·show Act.put _ (some 11) _ = _
           simp only [Act.put, List.setIfInBounds_toArray, List.set_cons_zero, List.set_cons_succ, i64_w, i32_w]
           rfl
          refine one_ (i := 5) (N := some 35) #[true, true, true, true, true, true, false, true, false] rfl rfl (one_of HT_.out (by kernel_rfl)) (by decide) (fun K hK => ?_)
          refine Kd.R_append_rows_step (Kd.int .u8) (w0 := w) w.heap.size rfl (.const (.slice none 0 0)) (.tmp 34) 22 5 (.int .u8 0) 1 rfl Try.underlying22 info5 rfl (by decide) (by omega) (.slice none 0 0) ([] : List Int) l0_1 _ _ _ (fun k_ => some k_ ≠ (.slice Ao18 y329.length co18 : Value).ownBlock ∧ some k_ ≠ (v333 : Value).ownBlock) (fun _ => False) rfl rfl ?aO ?aR (fun _ _ h => h) (fun _ h => h.elim) ?aF ?aB ?aS ?aL ?_
          (case aR => exact zC (Kd.C_below HR0_1.out HB.out))
          (case aB => exact (by repeat (first | (with_reducible first | exact HB.out | apply ba | apply bd | apply be | refine below_set ?_ GE322.out | refine below_set ?_ GE323.out | refine below_set ?_ GE338.out) | exact HB.out)))
          (case aF => exact (fun k_ hk => ⟨Kd.fresh' (Kd.R_lt (zR HO331.out)) k_ hk, Kd.fresh' (Kd.R_lt (zR HO334.out)) k_ hk⟩))
          (case aO => exact ((Kd.R_nil _ _ _ _ (fun k_ => some k_ ≠ (.slice Ao18 y329.length co18 : Value).ownBlock ∧ some k_ ≠ (v333 : Value).ownBlock))))
          (case aS => exact (below_size (zL HB.out)))
          (case aL => have := LMc11.out; omega)
          intro v336 w23 ho hb hg hat
          rw [← Ny335.out] at ho
          have n0_ := am (blk_grown (g := gb322) (o := .cells #[.slice A0_0 l0_0.length c0_0, .slice A0_1 l0_1.length c0_1] 24 (0, 0)) (zB BK322.out) hg (by simp [Value.ownBlock]))
          have n1_ := am (blk_grown (g := gb323) (o := .cells #[.slice none 0 0, .slice none 0 0] 24 (0, 0)) (zB BK323.out) hg (by simp [Value.ownBlock]))
          have n2_ := am (Kd.R_after (Kd.R_apart_nil (zR HO331.out)) hg hat)
          have n3_ := am (Kd.R_after (Kd.R_apart_nil (zR HO334.out)) hg hat)
          have n4_ := am (blk_grown (g := gb338) (o := .cells #[.slice none 0 0, .slice none 0 0] 24 (0, 0)) (zB BK338.out) hg (by simp [Value.ownBlock]))
          have n5_ := am (hb)
          have n6_ := am (ho)
          clear BK322 BK323 HO331 HO334 BK338 HB
          have BK322 := n0_
          have BK323 := n1_
          have HO331 := n2_
          have HO334 := n3_
          have BK338 := n4_
          have HB := n5_
          have HO337 := n6_
          clear n0_ n1_ n2_ n3_ n4_ n5_ n6_
          clear ho hb hg hat
          obtain ⟨Ao24, co24, eo24⟩ := Kd.R_slice HO337.out
          (first | subst eo24 | (injection eo24 with f1_ f2_ f3_; have f4_ := f1_.symm; have f5_ := f3_.symm; clear f1_ f2_ f3_; subst f4_; subst f5_))
          obtain ⟨Ao25, co25, eo25⟩ := Kd.R_slice HO334.out
          (first | subst eo25 | (injection eo25 with f1_ f2_ f3_; have f4_ := f1_.symm; have f5_ := f3_.symm; clear f1_ f2_ f3_; subst f4_; subst f5_))
          refine hK.out _ _ ⟨(blk_cell BK322.out 0).trans rfl, (blk_cell BK322.out 1).trans rfl⟩ (fun hHeld => ?_)
          clear hK K
          refine norm_ (a' := ?_) ?_ ?_
          rotate_left
          ·show Act.put _ (some 35) _ = _
           simp only [Act.put, List.setIfInBounds_toArray, List.set_cons_zero, List.set_cons_succ, i64_w, i32_w]
           rfl
          refine pure_ (i := 6) (N := some 36) (v := ?_) (a' := ?_) #[true, true, true, true, true, true, true, true, false] rfl rfl (any_of HT_.out (by kernel_rfl)) (fun _ _ _ h => h) (Or.inl ⟨by rfl, ?_⟩) ?_ ?_
          rotate_left
          ·intro w'
           go_simp
           with_reducible rfl
          rotate_left
          ·simp only [Act.put, List.setIfInBounds_toArray, List.set_cons_zero, List.set_cons_succ, i64_w, i32_w]
           rfl
          exact norm_ (by simp only [putAll, Act.put, List.setIfInBounds_toArray, List.set_cons_zero, List.set_cons_succ]) (hCont (.slice Ao25 y332.length co25, .slice Ao24 y335.length co24, gb338) _ ⟨hHeld, (by exact zR <| Kd.R_mono HO331.out (fun _ hk => ⟨hk.1.2, hk.2⟩)), (zR HO334.out), (zR HO337.out), (zB BK322.out), (zB BK323.out), (zB BK338.out), GW338.out, GE338.out, NB322_338.out, NB338_322.out, NB323_338.out, NB338_323.out, (by repeat (first | (with_reducible first | exact HB.out | apply ba | apply bd | apply be | refine below_set ?_ GE322.out | refine below_set ?_ GE323.out | refine below_set ?_ GE338.out) | exact HB.out))⟩)
        ·skip
         refine box_step ?hg (N := 11) ?hd (cs := #[.slice none 0 0, .slice none 0 0]) (t := 24) ?hr ?_; (case hd => rfl); (case hg => rfl); (case hr => first | (go_simp; done) | (go_simp; rfl))
         intro gb338 hg w21 hbox hb
         have n0_ := am (Kd.R_below (zR HO331.out) hb)
         have n1_ := am (blk_below (zB BK322.out) hb)
         have n2_ := am (blk_below (zB BK323.out) hb)
         have n3_ := am (below_step (zL HB.out) hb)
         have n4_ := am (hbox)
         have n5_ := am (zS hg HB.out)
         have n6_ := am (zS hg HB.out)
         have n7_ := am (zN hg BK322.out)
         have n8_ := am (zM hg BK322.out)
         have n9_ := am (zN hg BK323.out)
         have n10_ := am (zM hg BK323.out)
         clear HO331 BK322 BK323 HB
         have HO331 := n0_
         have BK322 := n1_
         have BK323 := n2_
         have HB := n3_
         have BK338 := n4_
         have GW338 := n5_
         have GE338 := n6_
         have NB322_338 := n7_
         have NB338_322 := n8_
         have NB323_338 := n9_
         have NB338_323 := n10_
         clear n0_ n1_ n2_ n3_ n4_ n5_ n6_ n7_ n8_ n9_ n10_
         clear hb hbox hg
         refine hK.out _ _ ⟨(blk_cell BK322.out 0).trans rfl, (blk_cell BK322.out 1).trans rfl⟩ (fun hHeld => ?_)
         clear hK K
         refine norm_ (a' := ?_) ?_ ?_
         rotate_left
         ·show Act.put _ (some 11) _ = _
          simp only [Act.put, List.setIfInBounds_toArray, List.set_cons_zero, List.set_cons_succ, i64_w, i32_w]
          rfl
         refine one_ (i := 2) (N := some 32) #[true, true, true, true, true, false, false, true, false] rfl rfl (one_of HT_.out (by kernel_rfl)) (by decide) (fun K hK => ?_)
         refine Kd.R_append_rows_step (Kd.int .u8) (w0 := w) w.heap.size rfl (.const (.slice none 0 0)) (.tmp 31) 22 5 (.int .u8 0) 1 rfl Try.underlying22 info5 rfl (by decide) (by omega) (.slice none 0 0) ([] : List Int) l0_0 _ _ _ (fun k_ => some k_ ≠ (.slice Ao18 y329.length co18 : Value).ownBlock) (fun _ => False) rfl rfl ?aO ?aR (fun _ _ h => h) (fun _ h => h.elim) ?aF ?aB ?aS ?aL ?_
         (case aR => exact zC (Kd.C_below HR0_0.out HB.out))
         (case aB => exact (by repeat (first | (with_reducible first | exact HB.out | apply ba | apply bd | apply be | refine below_set ?_ GE322.out | refine below_set ?_ GE323.out | refine below_set ?_ GE338.out) | exact HB.out)))
         (case aF => exact (fun k_ hk => Kd.fresh' (Kd.R_lt (zR HO331.out)) k_ hk))
         (case aO => exact ((Kd.R_nil _ _ _ _ (fun k_ => some k_ ≠ (.slice Ao18 y329.length co18 : Value).ownBlock))))
         (case aS => exact (below_size (zL HB.out)))
         (case aL => have := LMc10.out; omega)
         intro v333 w22 ho hb hg hat
         rw [← Ny332.out] at ho
         have n0_ := am (blk_grown (g := gb322) (o := .cells #[.slice A0_0 l0_0.length c0_0, .slice A0_1 l0_1.length c0_1] 24 (0, 0)) (zB BK322.out) hg (by simp [Value.ownBlock]))
         have n1_ := am (blk_grown (g := gb323) (o := .cells #[.slice none 0 0, .slice none 0 0] 24 (0, 0)) (zB BK323.out) hg (by simp [Value.ownBlock]))
         have n2_ := am (Kd.R_after (Kd.R_apart_nil (zR HO331.out)) hg hat)
         have n3_ := am (blk_grown (g := gb338) (o := .cells #[.slice none 0 0, .slice none 0 0] 24 (0, 0)) (zB BK338.out) hg (by simp [Value.ownBlock]))
         have n4_ := am (hb)
         have n5_ := am (ho)
         clear BK322 BK323 HO331 BK338 HB
         have BK322 := n0_
         have BK323 := n1_
         have HO331 := n2_
         have BK338 := n3_
         have HB := n4_
         have HO334 := n5_
         clear n0_ n1_ n2_ n3_ n4_ n5_
         clear ho hb hg hat
         refine hK.out _ _ ⟨(blk_cell BK322.out 0).trans rfl, (blk_cell BK322.out 1).trans rfl⟩ (fun hHeld => ?_)
         clear hK K
         refine norm_ (a' := ?_) ?_ ?_
         rotate_left
         ·show Act.put _ (some 32) _ = _
          simp only [Act.put, List.setIfInBounds_toArray, List.set_cons_zero, List.set_cons_succ, i64_w, i32_w]
          rfl
         refine one_ (i := 5) (N := some 35) #[true, true, true, true, true, true, false, true, false] rfl rfl (one_of HT_.out (by kernel_rfl)) (by decide) (fun K hK => ?_)
         refine Kd.R_append_rows_step (Kd.int .u8) (w0 := w) w.heap.size rfl (.const (.slice none 0 0)) (.tmp 34) 22 5 (.int .u8 0) 1 rfl Try.underlying22 info5 rfl (by decide) (by omega) (.slice none 0 0) ([] : List Int) l0_1 _ _ _ (fun k_ => some k_ ≠ (.slice Ao18 y329.length co18 : Value).ownBlock ∧ some k_ ≠ (v333 : Value).ownBlock) (fun _ => False) rfl rfl ?aO ?aR (fun _ _ h => h) (fun _ h => h.elim) ?aF ?aB ?aS ?aL ?_
         (case aR => exact zC (Kd.C_below HR0_1.out HB.out))
         (case aB => exact (by repeat (first | (with_reducible first | exact HB.out | apply ba | apply bd | apply be | refine below_set ?_ GE322.out | refine below_set ?_ GE323.out | refine below_set ?_ GE338.out) | exact HB.out)))
         (case aF => exact (fun k_ hk => ⟨Kd.fresh' (Kd.R_lt (zR HO331.out)) k_ hk, Kd.fresh' (Kd.R_lt (zR HO334.out)) k_ hk⟩))
         (case aO => exact ((Kd.R_nil _ _ _ _ (fun k_ => some k_ ≠ (.slice Ao18 y329.length co18 : Value).ownBlock ∧ some k_ ≠ (v333 : Value).ownBlock))))
         (case aS => exact (below_size (zL HB.out)))
         (case aL => have := LMc11.out; omega)
         intro v336 w23 ho hb hg hat
         rw [← Ny335.out] at ho
         have n0_ := am (blk_grown (g := gb322) (o := .cells #[.slice A0_0 l0_0.length c0_0, .slice A0_1 l0_1.length c0_1] 24 (0, 0)) (zB BK322.out) hg (by simp [Value.ownBlock]))
         have n1_ := am (blk_grown (g := gb323) (o := .cells #[.slice none 0 0, .slice none 0 0] 24 (0, 0)) (zB BK323.out) hg (by simp [Value.ownBlock]))
         have n2_ := am (Kd.R_after (Kd.R_apart_nil (zR HO331.out)) hg hat)
         have n3_ := am (blk_grown (g := gb338) (o := .cells #[.slice none 0 0, .slice none 0 0] 24 (0, 0)) (zB BK338.out) hg (by simp [Value.ownBlock]))
         have n4_ := am (Kd.R_after (Kd.R_apart_nil (zR HO334.out)) hg hat)
         have n5_ := am (hb)
         have n6_ := am (ho)
         clear BK322 BK323 HO331 BK338 HO334 HB
         have BK322 := n0_
         have BK323 := n1_
         have HO331 := n2_
         have BK338 := n3_
         have HO334 := n4_
         have HB := n5_
         have HO337 := n6_
         clear n0_ n1_ n2_ n3_ n4_ n5_ n6_
         clear ho hb hg hat
         obtain ⟨Ao24, co24, eo24⟩ := Kd.R_slice HO337.out
         (first | subst eo24 | (injection eo24 with f1_ f2_ f3_; have f4_ := f1_.symm; have f5_ := f3_.symm; clear f1_ f2_ f3_; subst f4_; subst f5_))
         obtain ⟨Ao25, co25, eo25⟩ := Kd.R_slice HO334.out
         (first | subst eo25 | (injection eo25 with f1_ f2_ f3_; have f4_ := f1_.symm; have f5_ := f3_.symm; clear f1_ f2_ f3_; subst f4_; subst f5_))
         refine hK.out _ _ ⟨(blk_cell BK322.out 0).trans rfl, (blk_cell BK322.out 1).trans rfl⟩ (fun hHeld => ?_)
         clear hK K
         refine norm_ (a' := ?_) ?_ ?_
         rotate_left
         ·show Act.put _ (some 35) _ = _
          simp only [Act.put, List.setIfInBounds_toArray, List.set_cons_zero, List.set_cons_succ, i64_w, i32_w]
          rfl
         refine pure_ (i := 6) (N := some 36) (v := ?_) (a' := ?_) #[true, true, true, true, true, true, true, true, false] rfl rfl (any_of HT_.out (by kernel_rfl)) (fun _ _ _ h => h) (Or.inl ⟨by rfl, ?_⟩) ?_ ?_
         rotate_left
         ·intro w'
          go_simp
          with_reducible rfl
         rotate_left
         ·simp only [Act.put, List.setIfInBounds_toArray, List.set_cons_zero, List.set_cons_succ, i64_w, i32_w]
          rfl
         exact norm_ (by simp only [putAll, Act.put, List.setIfInBounds_toArray, List.set_cons_zero, List.set_cons_succ]) (hCont (.slice Ao25 y332.length co25, .slice Ao24 y335.length co24, gb338) _ ⟨hHeld, (by exact zR <| Kd.R_mono HO331.out (fun _ hk => ⟨hk.1.2, hk.2⟩)), (zR HO334.out), (zR HO337.out), (zB BK322.out), (zB BK323.out), (zB BK338.out), GW338.out, GE338.out, NB322_338.out, NB338_322.out, NB323_338.out, NB338_323.out, (by repeat (first | (with_reducible first | exact HB.out | apply ba | apply bd | apply be | refine below_set ?_ GE322.out | refine below_set ?_ GE323.out | refine below_set ?_ GE338.out) | exact HB.out))⟩)
       rintro ⟨v333, v336, gb338⟩ w26 ⟨hS_, h0_, h1_, h2_, h3_, h4_, h5_, h6_, h7_, h8_, h9_, h10_, h11_, h12_⟩
       have n0_ : Aside0 (Kd.R (Kd.int .u8) 5 w26 w.heap.size (fun k_ => some k_ ≠ (v333 : Value).ownBlock ∧ some k_ ≠ (v336 : Value).ownBlock) (.slice Ao18 y329.length co18) y329) := ⟨h0_⟩
       have n1_ : Aside0 (Kd.R (Kd.int .u8) 5 w26 w.heap.size (fun k_ => some k_ ≠ (.slice Ao18 y329.length co18 : Value).ownBlock ∧ some k_ ≠ (v336 : Value).ownBlock) v333 y332) := ⟨h1_⟩
       have n2_ : Aside0 (Kd.R (Kd.int .u8) 5 w26 w.heap.size (fun k_ => some k_ ≠ (.slice Ao18 y329.length co18 : Value).ownBlock ∧ some k_ ≠ (v333 : Value).ownBlock) v336 y335) := ⟨h2_⟩
       have n3_ : Aside0 (w26.heap[gb322]? = some (.cells #[.slice A0_0 l0_0.length c0_0, .slice A0_1 l0_1.length c0_1] 24 (0, 0))) := ⟨h3_⟩
       have n4_ : Aside0 (w26.heap[gb323]? = some (.cells #[.slice none 0 0, .slice none 0 0] 24 (0, 0))) := ⟨h4_⟩
       have n5_ : Aside0 (w26.heap[gb338]? = some (.cells #[.slice none 0 0, .slice none 0 0] 24 (0, 0))) := ⟨h5_⟩
       have n6_ : Aside0 (w.heap.size ≤ gb338) := ⟨h6_⟩
       have n7_ : Aside0 (w.heap.size ≤ gb338) := ⟨h7_⟩
       have n8_ : Aside0 (gb322 ≠ gb338) := ⟨h8_⟩
       have n9_ : Aside0 (gb338 ≠ gb322) := ⟨h9_⟩
       have n10_ : Aside0 (gb323 ≠ gb338) := ⟨h10_⟩
       have n11_ : Aside0 (gb338 ≠ gb323) := ⟨h11_⟩
       have n12_ : Aside0 (Below w.heap.size w w26) := ⟨h12_⟩
       clear HO331 BK322 BK323 HB
       clear h0_ h1_ h2_ h3_ h4_ h5_ h6_ h7_ h8_ h9_ h10_ h11_ h12_
       have HO331 := n0_
       have HO334 := n1_
       have HO337 := n2_
       have BK322 := n3_
       have BK323 := n4_
       have BK338 := n5_
       have GW338 := n6_
       have GE338 := n7_
       have NB322_338 := n8_
       have NB338_322 := n9_
       have NB323_338 := n10_
       have NB338_323 := n11_
       have HB := n12_
       clear n0_ n1_ n2_ n3_ n4_ n5_ n6_ n7_ n8_ n9_ n10_ n11_ n12_
       have hHeld : w26.cell? ⟨gb322, 0, none⟩ = some (.slice A0_0 l0_0.length c0_0) ∧ w26.cell? ⟨gb322, 1, none⟩ = some (.slice A0_1 l0_1.length c0_1) := hS_
       obtain ⟨Ao27, co27, eo27⟩ := Kd.R_slice HO337.out
       (first | subst eo27 | (injection eo27 with f1_ f2_ f3_; have f4_ := f1_.symm; have f5_ := f3_.symm; clear f1_ f2_ f3_; subst f4_; subst f5_))
       obtain ⟨Ao28, co28, eo28⟩ := Kd.R_slice HO334.out
       (first | subst eo28 | (injection eo28 with f1_ f2_ f3_; have f4_ := f1_.symm; have f5_ := f3_.symm; clear f1_ f2_ f3_; subst f4_; subst f5_))
       refine norm_ (a' := ?_) ?_ ?_
       rotate_left
       ·simp only [putAll, Act.put, List.setIfInBounds_toArray, List.set_cons_zero, List.set_cons_succ]
        rfl
       refine one_ (i := 8) (N := none) #[true, true, true, true, true, true, true, true, true] rfl rfl (one_of HT_.out (by kernel_rfl)) (by decide) (fun K hK => ?_)
       have hs29 : w26.cell? ⟨gb338, 0, none⟩ = some (.slice none 0 0) := (blk_cell BK338.out 0).trans rfl
       have hfs29 := blk_frozen BK338.out 0
       have hns29_0 := NB322_338.out
       have hns29_1 := NB323_338.out
       have hms29_0 := NB338_322.out
       have hms29_1 := NB338_323.out
       have hs30 : w26.cell? ⟨gb338, 1, none⟩ = some (.slice none 0 0) := (blk_cell BK338.out 1).trans rfl
       have hfs30 := blk_frozen BK338.out 1
       have hns30_0 := NB322_338.out
       have hns30_1 := NB323_338.out
       have hms30_0 := NB338_322.out
       have hms30_1 := NB338_323.out
       refine skip_ (w1 := ?_) (by rfl) rfl ?_ ?_
       rotate_left
       ·go_simp
        rfl
       refine hK.out _ _ ⟨((cell_far (p := ⟨gb338, _, none⟩) NB322_338.out _).trans (((cell_far (p := ⟨gb338, _, none⟩) NB322_338.out _).trans (hHeld.1)))), ((cell_far (p := ⟨gb338, _, none⟩) NB322_338.out _).trans (((cell_far (p := ⟨gb338, _, none⟩) NB322_338.out _).trans (hHeld.2))))⟩ (fun hHeld => ?_)
       clear hK K
       refine done_ (done_of HT_.out (by kernel_rfl)) ?_
       have n0_ : Aside0 (Kd.R (Kd.int .u8) 5 ((w26.setCell ⟨gb338, 0, none⟩ (.slice Ao28 y332.length co28)).setCell ⟨gb338, 1, none⟩ (.slice Ao27 y335.length co27)) w.heap.size (fun k_ => some k_ ≠ (.slice Ao28 y332.length co28 : Value).ownBlock ∧ some k_ ≠ (.slice Ao27 y335.length co27 : Value).ownBlock) (.slice Ao18 y329.length co18) y329) := ⟨by exact zR <| Kd.R_mono (Kd.R_far (p := ⟨gb338, 1, none⟩) (Kd.R_far (p := ⟨gb338, 0, none⟩) (Kd.R_types HO331.out BK338.out (by decide)) (fun _ hk => hk.2) (.slice Ao28 y332.length co28)) (fun _ hk => hk.2) (.slice Ao27 y335.length co27)) (fun _ hk => ⟨hk.1.1, hk.1.2⟩)⟩
       have n1_ : Aside0 (Kd.R (Kd.int .u8) 5 ((w26.setCell ⟨gb338, 0, none⟩ (.slice Ao28 y332.length co28)).setCell ⟨gb338, 1, none⟩ (.slice Ao27 y335.length co27)) w.heap.size (fun k_ => some k_ ≠ (.slice Ao18 y329.length co18 : Value).ownBlock ∧ some k_ ≠ (.slice Ao27 y335.length co27 : Value).ownBlock) (.slice Ao28 y332.length co28) y332) := ⟨by exact zR <| Kd.R_mono (Kd.R_far (p := ⟨gb338, 1, none⟩) (Kd.R_far (p := ⟨gb338, 0, none⟩) (Kd.R_types HO334.out BK338.out (by decide)) (fun _ hk => hk.2) (.slice Ao28 y332.length co28)) (fun _ hk => hk.2) (.slice Ao27 y335.length co27)) (fun _ hk => ⟨hk.1.1, hk.1.2⟩)⟩
       have n2_ : Aside0 (Kd.R (Kd.int .u8) 5 ((w26.setCell ⟨gb338, 0, none⟩ (.slice Ao28 y332.length co28)).setCell ⟨gb338, 1, none⟩ (.slice Ao27 y335.length co27)) w.heap.size (fun k_ => some k_ ≠ (.slice Ao18 y329.length co18 : Value).ownBlock ∧ some k_ ≠ (.slice Ao28 y332.length co28 : Value).ownBlock) (.slice Ao27 y335.length co27) y335) := ⟨by exact zR <| Kd.R_mono (Kd.R_far (p := ⟨gb338, 1, none⟩) (Kd.R_far (p := ⟨gb338, 0, none⟩) (Kd.R_types HO337.out BK338.out (by decide)) (fun _ hk => hk.2) (.slice Ao28 y332.length co28)) (fun _ hk => hk.2) (.slice Ao27 y335.length co27)) (fun _ hk => ⟨hk.1.1, hk.1.2⟩)⟩
       have n3_ : Aside0 (((w26.setCell ⟨gb338, 0, none⟩ (.slice Ao28 y332.length co28)).setCell ⟨gb338, 1, none⟩ (.slice Ao27 y335.length co27)).heap[gb322]? = some (.cells #[.slice A0_0 l0_0.length c0_0, .slice A0_1 l0_1.length c0_1] 24 (0, 0))) := ⟨by refine blk_far ?_ NB322_338.out _; refine blk_far ?_ NB322_338.out _; exact zB <| BK322.out⟩
       have n4_ : Aside0 (((w26.setCell ⟨gb338, 0, none⟩ (.slice Ao28 y332.length co28)).setCell ⟨gb338, 1, none⟩ (.slice Ao27 y335.length co27)).heap[gb323]? = some (.cells #[.slice none 0 0, .slice none 0 0] 24 (0, 0))) := ⟨by refine blk_far ?_ NB323_338.out _; refine blk_far ?_ NB323_338.out _; exact zB <| BK323.out⟩
       have n5_ : Aside0 (((w26.setCell ⟨gb338, 0, none⟩ (.slice Ao28 y332.length co28)).setCell ⟨gb338, 1, none⟩ (.slice Ao27 y335.length co27)).heap[gb338]? = some (.cells #[.slice Ao28 y332.length co28, .slice Ao27 y335.length co27] 24 (0, 0))) := ⟨by refine blk_put (cs := #[.slice Ao28 y332.length co28, .slice none 0 0]) ?_ 1 _ rfl; refine blk_put (cs := #[.slice none 0 0, .slice none 0 0]) ?_ 0 _ rfl; exact zB <| BK338.out⟩
       have n6_ : Aside0 (Below w.heap.size w ((w26.setCell ⟨gb338, 0, none⟩ (.slice Ao28 y332.length co28)).setCell ⟨gb338, 1, none⟩ (.slice Ao27 y335.length co27))) := ⟨by repeat (first | (with_reducible first | exact HB.out | apply ba | apply bd | apply be | refine below_set ?_ GE322.out | refine below_set ?_ GE323.out | refine below_set ?_ GE338.out) | exact HB.out)⟩
       (try clear HO331)
       (try clear HO334)
       (try clear HO337)
       (try clear BK322)
       (try clear BK323)
       (try clear BK338)
       (try clear HB)
       generalize ((w26.setCell ⟨gb338, 0, none⟩ (.slice Ao28 y332.length co28)).setCell ⟨gb338, 1, none⟩ (.slice Ao27 y335.length co27)) = w31 at n0_ n1_ n2_ n3_ n4_ n5_ n6_ ⊢
       have HO331 := n0_
       have HO334 := n1_
       have HO337 := n2_
       have BK322 := n3_
       have BK323 := n4_
       have BK338 := n5_
       have HB := n6_
       clear n0_ n1_ n2_ n3_ n4_ n5_ n6_
       have hnb32 := NB338_322.out
       have hnc32 := NB322_338.out
       have hnb33 := NB338_323.out
       have hnc33 := NB323_338.out
       have hcz34_0 : w31.cell? ⟨gb338, 0, none⟩ = some (.slice Ao28 y332.length co28) := (blk_cell BK338.out 0).trans rfl
       have hcz34_1 : w31.cell? ⟨gb338, 1, none⟩ = some (.slice Ao27 y335.length co27) := (blk_cell BK338.out 1).trans rfl
       have hfz34_0 := blk_frozen BK338.out 0
       have hfz34_1 := blk_frozen BK338.out 1
       try go_wp2_with (first | ((with_reducible refine gate_store (t := 22) (p := 39) rfl ?_); refine store_event (t := 22) (p := 39) (v := ?vo_w35) (w1 := (w31.setCell ⟨gb338, 0, none⟩ (.slice Ao18 y329.length co18))) ?hg ?ho ?hn ?hr ?_; (case ho => rfl); (case hg => rfl); (case hn => rfl); (case hr => first | (go_simp; done) | (go_simp; rfl)); intro w35 hw; have n0_ : Aside0 (Kd.R (Kd.int .u8) 5 w35 w.heap.size (fun k_ => some k_ ≠ (.slice Ao28 y332.length co28 : Value).ownBlock ∧ some k_ ≠ (.slice Ao27 y335.length co27 : Value).ownBlock) (.slice Ao18 y329.length co18) y329) := ⟨(by rw [hw]; exact (by exact zR <| Kd.R_mono (Kd.R_far (p := ⟨gb338, 0, none⟩) (Kd.R_types HO331.out BK338.out (by decide)) (fun _ hk => hk.2) (.slice Ao18 y329.length co18)) (fun _ hk => ⟨hk.1.1, hk.1.2⟩)))⟩; have n1_ : Aside0 (Kd.R (Kd.int .u8) 5 w35 w.heap.size (fun k_ => some k_ ≠ (.slice Ao18 y329.length co18 : Value).ownBlock ∧ some k_ ≠ (.slice Ao27 y335.length co27 : Value).ownBlock) (.slice Ao28 y332.length co28) y332) := ⟨(by rw [hw]; exact (by exact zR <| Kd.R_mono (Kd.R_far (p := ⟨gb338, 0, none⟩) (Kd.R_types HO334.out BK338.out (by decide)) (fun _ hk => hk.2) (.slice Ao18 y329.length co18)) (fun _ hk => ⟨hk.1.1, hk.1.2⟩)))⟩; have n2_ : Aside0 (Kd.R (Kd.int .u8) 5 w35 w.heap.size (fun k_ => some k_ ≠ (.slice Ao18 y329.length co18 : Value).ownBlock ∧ some k_ ≠ (.slice Ao28 y332.length co28 : Value).ownBlock) (.slice Ao27 y335.length co27) y335) := ⟨(by rw [hw]; exact (by exact zR <| Kd.R_mono (Kd.R_far (p := ⟨gb338, 0, none⟩) (Kd.R_types HO337.out BK338.out (by decide)) (fun _ hk => hk.2) (.slice Ao18 y329.length co18)) (fun _ hk => ⟨hk.1.1, hk.1.2⟩)))⟩; have n3_ : Aside0 (w35.heap[gb322]? = some (.cells #[.slice A0_0 l0_0.length c0_0, .slice A0_1 l0_1.length c0_1] 24 (0, 0))) := ⟨(by rw [hw]; exact (by refine blk_far ?_ NB322_338.out _; exact zB <| BK322.out))⟩; have n4_ : Aside0 (w35.heap[gb323]? = some (.cells #[.slice none 0 0, .slice none 0 0] 24 (0, 0))) := ⟨(by rw [hw]; exact (by refine blk_far ?_ NB323_338.out _; exact zB <| BK323.out))⟩; have n5_ : Aside0 (w35.heap[gb338]? = some (.cells #[.slice Ao18 y329.length co18, .slice Ao27 y335.length co27] 24 (0, 0))) := ⟨(by rw [hw]; exact (by refine blk_put (cs := #[.slice Ao28 y332.length co28, .slice Ao27 y335.length co27]) ?_ 0 _ rfl; exact zB <| BK338.out))⟩; have n6_ : Aside0 (Below w.heap.size w w35) := ⟨(by rw [hw]; exact (by repeat (first | (with_reducible first | exact HB.out | apply ba | apply bd | apply be | refine below_set ?_ GE322.out | refine below_set ?_ GE323.out | refine below_set ?_ GE338.out) | exact HB.out)))⟩; clear hw HO331 HO334 HO337 BK322 BK323 BK338 HB; have HO331 := n0_; have HO334 := n1_; have HO337 := n2_; have BK322 := n3_; have BK323 := n4_; have BK338 := n5_; have HB := n6_; clear n0_ n1_ n2_ n3_ n4_ n5_ n6_; have hcz36_0 : w35.cell? ⟨gb338, 0, none⟩ = some (.slice Ao18 y329.length co18) := (blk_cell BK338.out 0).trans rfl; have hcz36_1 : w35.cell? ⟨gb338, 1, none⟩ = some (.slice Ao27 y335.length co27) := (blk_cell BK338.out 1).trans rfl; have hfz36_0 := blk_frozen BK338.out 0; have hfz36_1 := blk_frozen BK338.out 1; have hcz37_0 : w35.cell? ⟨gb323, 0, none⟩ = some (.slice none 0 0) := (blk_cell BK323.out 0).trans rfl; have hcz37_1 : w35.cell? ⟨gb323, 1, none⟩ = some (.slice none 0 0) := (blk_cell BK323.out 1).trans rfl; have hfz37_0 := blk_frozen BK323.out 0; have hfz37_1 := blk_frozen BK323.out 1) | ((with_reducible refine gate_store (t := 24) (p := 6) rfl ?_); refine store_event (t := 24) (p := 6) (v := ?vo_w38) (w1 := ((w35.setCell ⟨gb323, 0, none⟩ (.slice Ao18 y329.length co18)).setCell ⟨gb323, 1, none⟩ (.slice Ao27 y335.length co27))) ?hg ?ho ?hn ?hr ?_; (case ho => rfl); (case hg => rfl); (case hn => rfl); (case hr => first | (go_simp; done) | (go_simp; rfl)); intro w38 hw; have n0_ : Aside0 (Kd.R (Kd.int .u8) 5 w38 w.heap.size (fun k_ => some k_ ≠ (.slice Ao28 y332.length co28 : Value).ownBlock ∧ some k_ ≠ (.slice Ao27 y335.length co27 : Value).ownBlock) (.slice Ao18 y329.length co18) y329) := ⟨(by rw [hw]; exact (by exact zR <| Kd.R_mono (Kd.R_far (p := ⟨gb323, 1, none⟩) (Kd.R_far (p := ⟨gb323, 0, none⟩) (Kd.R_types HO331.out BK323.out (by decide)) (fun _ hk => hk.2) (.slice Ao18 y329.length co18)) (fun _ hk => hk.2) (.slice Ao27 y335.length co27)) (fun _ hk => ⟨hk.1.1, hk.1.2⟩)))⟩; have n1_ : Aside0 (Kd.R (Kd.int .u8) 5 w38 w.heap.size (fun k_ => some k_ ≠ (.slice Ao18 y329.length co18 : Value).ownBlock ∧ some k_ ≠ (.slice Ao27 y335.length co27 : Value).ownBlock) (.slice Ao28 y332.length co28) y332) := ⟨(by rw [hw]; exact (by exact zR <| Kd.R_mono (Kd.R_far (p := ⟨gb323, 1, none⟩) (Kd.R_far (p := ⟨gb323, 0, none⟩) (Kd.R_types HO334.out BK323.out (by decide)) (fun _ hk => hk.2) (.slice Ao18 y329.length co18)) (fun _ hk => hk.2) (.slice Ao27 y335.length co27)) (fun _ hk => ⟨hk.1.1, hk.1.2⟩)))⟩; have n2_ : Aside0 (Kd.R (Kd.int .u8) 5 w38 w.heap.size (fun k_ => some k_ ≠ (.slice Ao18 y329.length co18 : Value).ownBlock ∧ some k_ ≠ (.slice Ao28 y332.length co28 : Value).ownBlock) (.slice Ao27 y335.length co27) y335) := ⟨(by rw [hw]; exact (by exact zR <| Kd.R_mono (Kd.R_far (p := ⟨gb323, 1, none⟩) (Kd.R_far (p := ⟨gb323, 0, none⟩) (Kd.R_types HO337.out BK323.out (by decide)) (fun _ hk => hk.2) (.slice Ao18 y329.length co18)) (fun _ hk => hk.2) (.slice Ao27 y335.length co27)) (fun _ hk => ⟨hk.1.1, hk.1.2⟩)))⟩; have n3_ : Aside0 (w38.heap[gb322]? = some (.cells #[.slice A0_0 l0_0.length c0_0, .slice A0_1 l0_1.length c0_1] 24 (0, 0))) := ⟨(by rw [hw]; exact (by refine blk_far ?_ NB322_323.out _; refine blk_far ?_ NB322_323.out _; exact zB <| BK322.out))⟩; have n4_ : Aside0 (w38.heap[gb323]? = some (.cells #[.slice Ao18 y329.length co18, .slice Ao27 y335.length co27] 24 (0, 0))) := ⟨(by rw [hw]; exact (by refine blk_put (cs := #[.slice Ao18 y329.length co18, .slice none 0 0]) ?_ 1 _ rfl; refine blk_put (cs := #[.slice none 0 0, .slice none 0 0]) ?_ 0 _ rfl; exact zB <| BK323.out))⟩; have n5_ : Aside0 (w38.heap[gb338]? = some (.cells #[.slice Ao18 y329.length co18, .slice Ao27 y335.length co27] 24 (0, 0))) := ⟨(by rw [hw]; exact (by refine blk_far ?_ NB338_323.out _; refine blk_far ?_ NB338_323.out _; exact zB <| BK338.out))⟩; have n6_ : Aside0 (Below w.heap.size w w38) := ⟨(by rw [hw]; exact (by repeat (first | (with_reducible first | exact HB.out | apply ba | apply bd | apply be | refine below_set ?_ GE322.out | refine below_set ?_ GE323.out | refine below_set ?_ GE338.out) | exact HB.out)))⟩; clear hw HO331 HO334 HO337 BK322 BK323 BK338 HB; have HO331 := n0_; have HO334 := n1_; have HO337 := n2_; have BK322 := n3_; have BK323 := n4_; have BK338 := n5_; have HB := n6_; clear n0_ n1_ n2_ n3_ n4_ n5_ n6_))
       refine bodyPost_ret (results_ct rfl _ _ gb323 24 #[.slice Ao18 y329.length co18, .slice Ao27 y335.length co27] (0, 0) _ rfl (zB BK323.out) Try.underlying24 rfl (by kernel_rfl)) rfl ?_
       exact ⟨_, _, by first | rfl | (simp [errW_none, errW_some] <;> rfl) | (simp only [← hji6, ← hji7]; first | rfl | (simp [errW_none, errW_some] <;> rfl)) | (simp [*, errW_none, errW_some] <;> rfl), by exact zR <| Kd.R_mono HO331.out (fun _ hk => hk.2), by exact zR <| Kd.R_mono HO337.out (fun _ hk => hk.1), by repeat (first | (with_reducible first | exact HB.out | apply ba | apply bd | apply be | refine below_set ?_ GE322.out | refine below_set ?_ GE323.out | refine below_set ?_ GE338.out) | exact HB.out)⟩
      ·replace c12 := Bool.eq_false_iff.mpr c12
       subst c12
       have H1 : (some (y332, y329, 0)) = some (r1, r2, r3) := by rw [if_neg (show ¬ (false = true) by decide)] at H; exact H
       clear H
       have H := H1
       clear H1
       simp only [Option.some.injEq, Prod.mk.injEq] at H
       obtain ⟨rfl, rfl, rfl⟩ := H
       go_enter Try.func13, Try.ntmps13
       try go_wp2_with (first | ((with_reducible refine gate_dst (N := 3) rfl ?_); refine box_event ?hg (N := 3) ?hd (cs := #[.slice A0_0 l0_0.length c0_0, .slice A0_1 l0_1.length c0_1]) (t := 24) ?hr ?_; (case hd => rfl); (case hg => rfl); (case hr => first | (go_simp; done) | (go_simp; rfl)); intro gb322 hg w39 hbox hb; have n0_ := am (below_step (zL HB.out) hb); have n1_ := am (hbox); have n2_ := am (zS hg HB.out); have n3_ := am (zS hg HB.out); clear HB; have HB := n0_; have BK322 := n1_; have GW322 := n2_; have GE322 := n3_; clear n0_ n1_ n2_ n3_; clear hb hbox hg) | ((with_reducible refine gate_dst (N := 6) rfl ?_); refine box_event ?hg (N := 6) ?hd (cs := #[.slice none 0 0, .slice none 0 0]) (t := 24) ?hr ?_; (case hd => rfl); (case hg => rfl); (case hr => first | (go_simp; done) | (go_simp; rfl)); intro gb323 hg w40 hbox hb; have n0_ := am (blk_below (zB BK322.out) hb); have n1_ := am (below_step (zL HB.out) hb); have n2_ := am (hbox); have n3_ := am (zS hg HB.out); have n4_ := am (zS hg HB.out); have n5_ := am (zN hg BK322.out); have n6_ := am (zM hg BK322.out); clear BK322 HB; have BK322 := n0_; have HB := n1_; have BK323 := n2_; have GW323 := n3_; have GE323 := n4_; have NB322_323 := n5_; have NB323_322 := n6_; clear n0_ n1_ n2_ n3_ n4_ n5_ n6_; clear hb hbox hg; have hnb41 := NB322_323.out; have hnc41 := NB323_322.out; have hcz42_0 : w40.cell? ⟨gb322, 0, none⟩ = some (.slice A0_0 l0_0.length c0_0) := (blk_cell BK322.out 0).trans rfl; have hcz42_1 : w40.cell? ⟨gb322, 1, none⟩ = some (.slice A0_1 l0_1.length c0_1) := (blk_cell BK322.out 1).trans rfl; have hfz42_0 := blk_frozen BK322.out 0; have hfz42_1 := blk_frozen BK322.out 1) | ((with_reducible refine gate_callee (f := 27) rfl ?_); refine goesL_ (some 15) rfl rfl Try.func27 (by kernel_rfl) rfl #[.agg #[.slice A0_0 l0_0.length c0_0, .slice A0_1 l0_1.length c0_1], .slice A1 l1.length c1] rfl (by (try simp only [List.map_toArray, List.map_cons, List.map_nil]); first | done | rfl | (simp only [List.length_drop, List.length_take]; rfl)) ?_; (with_reducible refine (clusterlocksref26_next.calls k _ _ l0_0 _ _ l0_1 _ _ l1 t324 false t328 _ ?side1 ?side2 ?side3 ?side4 ?side5 ?side6 A4.out).mono ?_); (case side1 => exact zC (Kd.C_below HR0_0.out HB.out)); (case side2 => exact HC0_0.out); (case side3 => exact zC (Kd.C_below HR0_1.out HB.out)); (case side4 => exact HC0_1.out); (case side5 => exact zC (Kd.C_below HR1.out HB.out)); (case side6 => exact HC1.out); rintro e w43 ⟨v325, rfl, ho0, hb⟩; refine ⟨_, rfl, ?_⟩; have n0_ := am (Kd.R_lower ho0 (below_size (zL HB.out))); have n1_ := am (blk_below (zB BK322.out) hb); have n2_ := am (blk_below (zB BK323.out) hb); have n3_ := am (below_step (zL HB.out) hb); clear BK322 BK323 HB; have HO326 := n0_; have BK322 := n1_; have BK323 := n2_; have HB := n3_; clear n0_ n1_ n2_ n3_; (try clear hb); (try clear hb2); (try clear hk); (try clear hi); (try clear ho0); obtain ⟨Ao44, co44, eo44⟩ := Kd.R_slice HO326.out; subst eo44; have q45 : ((ji7) : Int) ≤ ((t324.length : Int) : Int) := of_decide_eq_true (by first | (with_reducible assumption) | assumption); obtain ⟨i045, hi045, _, hsz45, _⟩ := info_parts info5; have hcut45 := cut_to (P := Try.prog) 22 5 .i64 Try.underlying22 hi045 Ao44 t324.length co44 (ji7) (of_decide_eq_true (by first | (with_reducible assumption) | assumption)) q45 (Kd.R_reads' HO326.out).2.1; have hr45 := Kd.R_take (m := ((ji7) : Int).toNat) HO326.out (by omega); have hy45 : y329.length = ((ji7) : Int).toNat := (by rw [Ny329.out, List.length_take]; omega); rw [← Ny329.out] at hr45; rw [← hy45] at hr45 hcut45; clear hy45 hi045 hsz45 HO326; have HO331 := Aside0.mk hr45; clear hr45; replace q45 := eq_true q45))
       have n0_ := am (Kd.R_drew HO331.out)
       have n1_ := am (blk_drew BK322.out)
       have n2_ := am (blk_drew BK323.out)
       have n3_ := am (below_drew1 HB.out)
       clear HO331 BK322 BK323 HB
       have HO331 := n0_
       have BK322 := n1_
       have BK323 := n2_
       have HB := n3_
       clear n0_ n1_ n2_ n3_
       refine start_ (n := 9) (S := fun w' => w'.cell? ⟨gb322, 0, none⟩ = some (.slice A0_0 l0_0.length c0_0) ∧ w'.cell? ⟨gb322, 1, none⟩ = some (.slice A0_1 l0_1.length c0_1)) (ds := []) #[false, false, false, false, false, false, false, false, false] (by kernel_rfl) rfl rfl ⟨(blk_cell BK322.out 0).trans rfl, (blk_cell BK322.out 1).trans rfl⟩ (fun hHeld => ?_); refine with_tabW clusterlocksref26_Torn.tab5 clusterlocksref26_Torn.bits5 (fun HT_ HW_ => ?_)
       generalize w43.drew = w46 at HO331 BK322 BK323 HB hHeld ⊢
       refine pure_ (i := 0) (N := some 30) (v := ?_) (a' := ?_) #[true, false, false, false, false, false, false, false, false] rfl rfl (any_of HT_.out (by kernel_rfl)) (fun _ _ _ h => h) (Or.inl ⟨by rfl, ?_⟩) ?_ ?_
       rotate_left
       ·intro w'
        go_simp
        with_reducible rfl
       rotate_left
       ·simp only [Act.put, List.setIfInBounds_toArray, List.set_cons_zero, List.set_cons_succ, i64_w, i32_w]
        rfl
       refine pure_ (i := 3) (N := some 33) (v := ?_) (a' := ?_) #[true, false, false, true, false, false, false, false, false] rfl rfl (any_of HT_.out (by kernel_rfl)) (fun _ _ _ h => h) (Or.inl ⟨by rfl, ?_⟩) ?_ ?_
       rotate_left
       ·intro w'
        go_simp
        with_reducible rfl
       rotate_left
       ·simp only [Act.put, List.setIfInBounds_toArray, List.set_cons_zero, List.set_cons_succ, i64_w, i32_w]
        rfl
       refine take_ (i := 1) (N := some 31) (v := ?_) (a' := ?_) #[true, true, false, true, false, false, false, false, false] rfl rfl (take_ofW HT_.out HW_.out (by kernel_rfl)) (fun _ _ _ h => h) (Or.inl ⟨by rfl, ?_⟩) hHeld ?_ ?_
       rotate_left
       ·rintro w' ⟨s0, s1⟩
        go_simp
        with_reducible rfl
       rotate_left
       ·simp only [Act.put, List.setIfInBounds_toArray, List.set_cons_zero, List.set_cons_succ, i64_w, i32_w]
        rfl
       refine take_ (i := 4) (N := some 34) (v := ?_) (a' := ?_) #[true, true, false, true, true, false, false, false, false] rfl rfl (take_ofW HT_.out HW_.out (by kernel_rfl)) (fun _ _ _ h => h) (Or.inl ⟨by rfl, ?_⟩) hHeld ?_ ?_
       rotate_left
       ·rintro w' ⟨s0, s1⟩
        go_simp
        with_reducible rfl
       rotate_left
       ·simp only [Act.put, List.setIfInBounds_toArray, List.set_cons_zero, List.set_cons_succ, i64_w, i32_w]
        rfl
       refine join_ (σ := Value × Value × Nat) 1 #[true, true, true, true, true, true, true, true, false] (fun s_ => [(32, s_.1), (35, s_.2.1), (11, .pointer (some ⟨s_.2.2, 0, none⟩)), (36, .agg #[s_.1, s_.2.1])]) (fun s_ w' => (w'.cell? ⟨gb322, 0, none⟩ = some (.slice A0_0 l0_0.length c0_0) ∧ w'.cell? ⟨gb322, 1, none⟩ = some (.slice A0_1 l0_1.length c0_1)) ∧ (Kd.R (Kd.int .u8) 5 w' w.heap.size (fun k_ => some k_ ≠ (s_.1 : Value).ownBlock ∧ some k_ ≠ (s_.2.1 : Value).ownBlock) (.slice Ao44 y329.length co44) y329) ∧ (Kd.R (Kd.int .u8) 5 w' w.heap.size (fun k_ => some k_ ≠ (.slice Ao44 y329.length co44 : Value).ownBlock ∧ some k_ ≠ (s_.2.1 : Value).ownBlock) s_.1 y332) ∧ (Kd.R (Kd.int .u8) 5 w' w.heap.size (fun k_ => some k_ ≠ (.slice Ao44 y329.length co44 : Value).ownBlock ∧ some k_ ≠ (s_.1 : Value).ownBlock) s_.2.1 y335) ∧ (w'.heap[gb322]? = some (.cells #[.slice A0_0 l0_0.length c0_0, .slice A0_1 l0_1.length c0_1] 24 (0, 0))) ∧ (w'.heap[gb323]? = some (.cells #[.slice none 0 0, .slice none 0 0] 24 (0, 0))) ∧ (w'.heap[s_.2.2]? = some (.cells #[.slice none 0 0, .slice none 0 0] 24 (0, 0))) ∧ (w.heap.size ≤ s_.2.2) ∧ (w.heap.size ≤ s_.2.2) ∧ (gb322 ≠ s_.2.2) ∧ (s_.2.2 ≠ gb322) ∧ (gb323 ≠ s_.2.2) ∧ (s_.2.2 ≠ gb323) ∧ (Below w.heap.size w w')) ?_ ?_
       rotate_left
       ·intro hCont
        refine two_ (i := 2) (j := 7) (Ni := some 32) (Nj := some 11) #[true, true, true, true, true, false, false, false, false] #[true, true, false, true, true, false, false, true, false] rfl rfl rfl rfl (two_of HT_.out (by kernel_rfl)) (by decide) (by decide) (fun K hK => ?_) (fun K hK => ?_)
        ·skip
         refine Kd.R_append_rows_step (Kd.int .u8) (w0 := w) w.heap.size rfl (.const (.slice none 0 0)) (.tmp 31) 22 5 (.int .u8 0) 1 rfl Try.underlying22 info5 rfl (by decide) (by omega) (.slice none 0 0) ([] : List Int) l0_0 _ _ _ (fun k_ => some k_ ≠ (.slice Ao44 y329.length co44 : Value).ownBlock) (fun _ => False) rfl rfl ?aO ?aR (fun _ _ h => h) (fun _ h => h.elim) ?aF ?aB ?aS ?aL ?_
         (case aR => exact zC (Kd.C_below HR0_0.out HB.out))
         (case aB => exact (by repeat (first | (with_reducible first | exact HB.out | apply ba | apply bd | apply be | refine below_set ?_ GE322.out | refine below_set ?_ GE323.out) | exact HB.out)))
         (case aF => exact (fun k_ hk => Kd.fresh' (Kd.R_lt (zR HO331.out)) k_ hk))
         (case aO => exact ((Kd.R_nil _ _ _ _ (fun k_ => some k_ ≠ (.slice Ao44 y329.length co44 : Value).ownBlock))))
         (case aS => exact (below_size (zL HB.out)))
         (case aL => have := LMc10.out; omega)
         intro v333 w47 ho hb hg hat
         rw [← Ny332.out] at ho
         have n0_ := am (blk_grown (g := gb322) (o := .cells #[.slice A0_0 l0_0.length c0_0, .slice A0_1 l0_1.length c0_1] 24 (0, 0)) (zB BK322.out) hg (by simp [Value.ownBlock]))
         have n1_ := am (blk_grown (g := gb323) (o := .cells #[.slice none 0 0, .slice none 0 0] 24 (0, 0)) (zB BK323.out) hg (by simp [Value.ownBlock]))
         have n2_ := am (Kd.R_after (Kd.R_apart_nil (zR HO331.out)) hg hat)
         have n3_ := am (hb)
         have n4_ := am (ho)
         clear BK322 BK323 HO331 HB
         have BK322 := n0_
         have BK323 := n1_
         have HO331 := n2_
         have HB := n3_
         have HO334 := n4_
         clear n0_ n1_ n2_ n3_ n4_
         clear ho hb hg hat
         refine hK.out _ _ ⟨(blk_cell BK322.out 0).trans rfl, (blk_cell BK322.out 1).trans rfl⟩ (fun hHeld => ?_)
         clear hK K
         refine norm_ (a' := ?_) ?_ ?_
         rotate_left
         ·show Act.put _ (some 32) _ = _
          simp only [Act.put, List.setIfInBounds_toArray, List.set_cons_zero, List.set_cons_succ, i64_w, i32_w]
          rfl
         refine two_ (i := 5) (j := 7) (Ni := some 35) (Nj := some 11) #[true, true, true, true, true, true, false, false, false] #[true, true, true, true, true, false, false, true, false] rfl rfl rfl rfl (two_of HT_.out (by kernel_rfl)) (by decide) (by decide) (fun K hK => ?_) (fun K hK => ?_)
         ·skip
          refine Kd.R_append_rows_step (Kd.int .u8) (w0 := w) w.heap.size rfl (.const (.slice none 0 0)) (.tmp 34) 22 5 (.int .u8 0) 1 rfl Try.underlying22 info5 rfl (by decide) (by omega) (.slice none 0 0) ([] : List Int) l0_1 _ _ _ (fun k_ => some k_ ≠ (.slice Ao44 y329.length co44 : Value).ownBlock ∧ some k_ ≠ (v333 : Value).ownBlock) (fun _ => False) rfl rfl ?aO ?aR (fun _ _ h => h) (fun _ h => h.elim) ?aF ?aB ?aS ?aL ?_
          (case aR => exact zC (Kd.C_below HR0_1.out HB.out))
          (case aB => exact (by repeat (first | (with_reducible first | exact HB.out | apply ba | apply bd | apply be | refine below_set ?_ GE322.out | refine below_set ?_ GE323.out) | exact HB.out)))
          (case aF => exact (fun k_ hk => ⟨Kd.fresh' (Kd.R_lt (zR HO331.out)) k_ hk, Kd.fresh' (Kd.R_lt (zR HO334.out)) k_ hk⟩))
          (case aO => exact ((Kd.R_nil _ _ _ _ (fun k_ => some k_ ≠ (.slice Ao44 y329.length co44 : Value).ownBlock ∧ some k_ ≠ (v333 : Value).ownBlock))))
          (case aS => exact (below_size (zL HB.out)))
          (case aL => have := LMc11.out; omega)
          intro v336 w48 ho hb hg hat
          rw [← Ny335.out] at ho
          have n0_ := am (blk_grown (g := gb322) (o := .cells #[.slice A0_0 l0_0.length c0_0, .slice A0_1 l0_1.length c0_1] 24 (0, 0)) (zB BK322.out) hg (by simp [Value.ownBlock]))
          have n1_ := am (blk_grown (g := gb323) (o := .cells #[.slice none 0 0, .slice none 0 0] 24 (0, 0)) (zB BK323.out) hg (by simp [Value.ownBlock]))
          have n2_ := am (Kd.R_after (Kd.R_apart_nil (zR HO331.out)) hg hat)
          have n3_ := am (Kd.R_after (Kd.R_apart_nil (zR HO334.out)) hg hat)
          have n4_ := am (hb)
          have n5_ := am (ho)
          clear BK322 BK323 HO331 HO334 HB
          have BK322 := n0_
          have BK323 := n1_
          have HO331 := n2_
          have HO334 := n3_
          have HB := n4_
          have HO337 := n5_
          clear n0_ n1_ n2_ n3_ n4_ n5_
          clear ho hb hg hat
          obtain ⟨Ao49, co49, eo49⟩ := Kd.R_slice HO337.out
          (first | subst eo49 | (injection eo49 with f1_ f2_ f3_; have f4_ := f1_.symm; have f5_ := f3_.symm; clear f1_ f2_ f3_; subst f4_; subst f5_))
          obtain ⟨Ao50, co50, eo50⟩ := Kd.R_slice HO334.out
          (first | subst eo50 | (injection eo50 with f1_ f2_ f3_; have f4_ := f1_.symm; have f5_ := f3_.symm; clear f1_ f2_ f3_; subst f4_; subst f5_))
          refine hK.out _ _ ⟨(blk_cell BK322.out 0).trans rfl, (blk_cell BK322.out 1).trans rfl⟩ (fun hHeld => ?_)
          clear hK K
          refine norm_ (a' := ?_) ?_ ?_
          rotate_left
          ·show Act.put _ (some 35) _ = _
           simp only [Act.put, List.setIfInBounds_toArray, List.set_cons_zero, List.set_cons_succ, i64_w, i32_w]
           rfl
          refine pure_ (i := 6) (N := some 36) (v := ?_) (a' := ?_) #[true, true, true, true, true, true, true, false, false] rfl rfl (any_of HT_.out (by kernel_rfl)) (fun _ _ _ h => h) (Or.inl ⟨by rfl, ?_⟩) ?_ ?_
          rotate_left
          ·intro w'
           go_simp
           with_reducible rfl
          rotate_left
          ·simp only [Act.put, List.setIfInBounds_toArray, List.set_cons_zero, List.set_cons_succ, i64_w, i32_w]
           rfl
          refine one_ (i := 7) (N := some 11) #[true, true, true, true, true, true, true, true, false] rfl rfl (one_of HT_.out (by kernel_rfl)) (by decide) (fun K hK => ?_)
          refine box_step ?hg (N := 11) ?hd (cs := #[.slice none 0 0, .slice none 0 0]) (t := 24) ?hr ?_; (case hd => rfl); (case hg => rfl); (case hr => first | (go_simp; done) | (go_simp; rfl))
          intro gb338 hg w51 hbox hb
          have n0_ := am (Kd.R_below (zR HO331.out) hb)
          have n1_ := am (Kd.R_below (zR HO334.out) hb)
          have n2_ := am (Kd.R_below (zR HO337.out) hb)
          have n3_ := am (blk_below (zB BK322.out) hb)
          have n4_ := am (blk_below (zB BK323.out) hb)
          have n5_ := am (below_step (zL HB.out) hb)
          have n6_ := am (hbox)
          have n7_ := am (zS hg HB.out)
          have n8_ := am (zS hg HB.out)
          have n9_ := am (zN hg BK322.out)
          have n10_ := am (zM hg BK322.out)
          have n11_ := am (zN hg BK323.out)
          have n12_ := am (zM hg BK323.out)
          clear HO331 HO334 HO337 BK322 BK323 HB
          have HO331 := n0_
          have HO334 := n1_
          have HO337 := n2_
          have BK322 := n3_
          have BK323 := n4_
          have HB := n5_
          have BK338 := n6_
          have GW338 := n7_
          have GE338 := n8_
          have NB322_338 := n9_
          have NB338_322 := n10_
          have NB323_338 := n11_
          have NB338_323 := n12_
          clear n0_ n1_ n2_ n3_ n4_ n5_ n6_ n7_ n8_ n9_ n10_ n11_ n12_
          clear hb hbox hg
          refine hK.out _ _ ⟨(blk_cell BK322.out 0).trans rfl, (blk_cell BK322.out 1).trans rfl⟩ (fun hHeld => ?_)
          clear hK K
          refine norm_ (a' := ?_) ?_ ?_
          rotate_left
          ·show Act.put _ (some 11) _ = _
           simp only [Act.put, List.setIfInBounds_toArray, List.set_cons_zero, List.set_cons_succ, i64_w, i32_w]
           rfl
          exact norm_ (by simp only [putAll, Act.put, List.setIfInBounds_toArray, List.set_cons_zero, List.set_cons_succ]) (hCont (.slice Ao50 y332.length co50, .slice Ao49 y335.length co49, gb338) _ ⟨hHeld, (by exact zR <| Kd.R_mono HO331.out (fun _ hk => ⟨hk.1.2, hk.2⟩)), (zR HO334.out), (zR HO337.out), (zB BK322.out), (zB BK323.out), (zB BK338.out), GW338.out, GE338.out, NB322_338.out, NB338_322.out, NB323_338.out, NB338_323.out, (by repeat (first | (with_reducible first | exact HB.out | apply ba | apply bd | apply be | refine below_set ?_ GE322.out | refine below_set ?_ GE323.out | refine below_set ?_ GE338.out) | exact HB.out))⟩)
         ·skip
          refine box_step ?hg (N := 11) ?hd (cs := #[.slice none 0 0, .slice none 0 0]) (t := 24) ?hr ?_; (case hd => rfl); (case hg => rfl); (case hr => first | (go_simp; done) | (go_simp; rfl))
          intro gb338 hg w48 hbox hb
          have n0_ := am (Kd.R_below (zR HO331.out) hb)
          have n1_ := am (Kd.R_below (zR HO334.out) hb)
          have n2_ := am (blk_below (zB BK322.out) hb)
          have n3_ := am (blk_below (zB BK323.out) hb)
          have n4_ := am (below_step (zL HB.out) hb)
          have n5_ := am (hbox)
          have n6_ := am (zS hg HB.out)
          have n7_ := am (zS hg HB.out)
          have n8_ := am (zN hg BK322.out)
          have n9_ := am (zM hg BK322.out)
          have n10_ := am (zN hg BK323.out)
          have n11_ := am (zM hg BK323.out)
          clear HO331 HO334 BK322 BK323 HB
          have HO331 := n0_
          have HO334 := n1_
          have BK322 := n2_
          have BK323 := n3_
          have HB := n4_
          have BK338 := n5_
          have GW338 := n6_
          have GE338 := n7_
          have NB322_338 := n8_
          have NB338_322 := n9_
          have NB323_338 := n10_
          have NB338_323 := n11_
          clear n0_ n1_ n2_ n3_ n4_ n5_ n6_ n7_ n8_ n9_ n10_ n11_
          clear hb hbox hg
          refine hK.out _ _ ⟨(blk_cell BK322.out 0).trans rfl, (blk_cell BK322.out 1).trans rfl⟩ (fun hHeld => ?_)
          clear hK K
          refine norm_ (a' := ?_) ?_ ?_
          rotate_left
          ·show Act.put _ (some 11) _ = _
           simp only [Act.put, List.setIfInBounds_toArray, List.set_cons_zero, List.set_cons_succ, i64_w, i32_w]
           rfl
          refine one_ (i := 5) (N := some 35) #[true, true, true, true, true, true, false, true, false] rfl rfl (one_of HT_.out (by kernel_rfl)) (by decide) (fun K hK => ?_)
          refine Kd.R_append_rows_step (Kd.int .u8) (w0 := w) w.heap.size rfl (.const (.slice none 0 0)) (.tmp 34) 22 5 (.int .u8 0) 1 rfl Try.underlying22 info5 rfl (by decide) (by omega) (.slice none 0 0) ([] : List Int) l0_1 _ _ _ (fun k_ => some k_ ≠ (.slice Ao44 y329.length co44 : Value).ownBlock ∧ some k_ ≠ (v333 : Value).ownBlock) (fun _ => False) rfl rfl ?aO ?aR (fun _ _ h => h) (fun _ h => h.elim) ?aF ?aB ?aS ?aL ?_
          (case aR => exact zC (Kd.C_below HR0_1.out HB.out))
          (case aB => exact (by repeat (first | (with_reducible first | exact HB.out | apply ba | apply bd | apply be | refine below_set ?_ GE322.out | refine below_set ?_ GE323.out | refine below_set ?_ GE338.out) | exact HB.out)))
          (case aF => exact (fun k_ hk => ⟨Kd.fresh' (Kd.R_lt (zR HO331.out)) k_ hk, Kd.fresh' (Kd.R_lt (zR HO334.out)) k_ hk⟩))
          (case aO => exact ((Kd.R_nil _ _ _ _ (fun k_ => some k_ ≠ (.slice Ao44 y329.length co44 : Value).ownBlock ∧ some k_ ≠ (v333 : Value).ownBlock))))
          (case aS => exact (below_size (zL HB.out)))
          (case aL => have := LMc11.out; omega)
          intro v336 w49 ho hb hg hat
          rw [← Ny335.out] at ho
          have n0_ := am (blk_grown (g := gb322) (o := .cells #[.slice A0_0 l0_0.length c0_0, .slice A0_1 l0_1.length c0_1] 24 (0, 0)) (zB BK322.out) hg (by simp [Value.ownBlock]))
          have n1_ := am (blk_grown (g := gb323) (o := .cells #[.slice none 0 0, .slice none 0 0] 24 (0, 0)) (zB BK323.out) hg (by simp [Value.ownBlock]))
          have n2_ := am (Kd.R_after (Kd.R_apart_nil (zR HO331.out)) hg hat)
          have n3_ := am (Kd.R_after (Kd.R_apart_nil (zR HO334.out)) hg hat)
          have n4_ := am (blk_grown (g := gb338) (o := .cells #[.slice none 0 0, .slice none 0 0] 24 (0, 0)) (zB BK338.out) hg (by simp [Value.ownBlock]))
          have n5_ := am (hb)
          have n6_ := am (ho)
          clear BK322 BK323 HO331 HO334 BK338 HB
          have BK322 := n0_
          have BK323 := n1_
          have HO331 := n2_
          have HO334 := n3_
          have BK338 := n4_
          have HB := n5_
          have HO337 := n6_
          clear n0_ n1_ n2_ n3_ n4_ n5_ n6_
          clear ho hb hg hat
          obtain ⟨Ao50, co50, eo50⟩ := Kd.R_slice HO337.out
          (first | subst eo50 | (injection eo50 with f1_ f2_ f3_; have f4_ := f1_.symm; have f5_ := f3_.symm; clear f1_ f2_ f3_; subst f4_; subst f5_))
          obtain ⟨Ao51, co51, eo51⟩ := Kd.R_slice HO334.out
          (first | subst eo51 | (injection eo51 with f1_ f2_ f3_; have f4_ := f1_.symm; have f5_ := f3_.symm; clear f1_ f2_ f3_; subst f4_; subst f5_))
          refine hK.out _ _ ⟨(blk_cell BK322.out 0).trans rfl, (blk_cell BK322.out 1).trans rfl⟩ (fun hHeld => ?_)
          clear hK K
          refine norm_ (a' := ?_) ?_ ?_
          rotate_left
          ·show Act.put _ (some 35) _ = _
           simp only [Act.put, List.setIfInBounds_toArray, List.set_cons_zero, List.set_cons_succ, i64_w, i32_w]
           rfl
          refine pure_ (i := 6) (N := some 36) (v := ?_) (a' := ?_) #[true, true, true, true, true, true, true, true, false] rfl rfl (any_of HT_.out (by kernel_rfl)) (fun _ _ _ h => h) (Or.inl ⟨by rfl, ?_⟩) ?_ ?_
          rotate_left
          ·intro w'
           go_simp
           with_reducible rfl
          rotate_left
          ·simp only [Act.put, List.setIfInBounds_toArray, List.set_cons_zero, List.set_cons_succ, i64_w, i32_w]
           rfl
          exact norm_ (by simp only [putAll, Act.put, List.setIfInBounds_toArray, List.set_cons_zero, List.set_cons_succ]) (hCont (.slice Ao51 y332.length co51, .slice Ao50 y335.length co50, gb338) _ ⟨hHeld, (by exact zR <| Kd.R_mono HO331.out (fun _ hk => ⟨hk.1.2, hk.2⟩)), (zR HO334.out), (zR HO337.out), (zB BK322.out), (zB BK323.out), (zB BK338.out), GW338.out, GE338.out, NB322_338.out, NB338_322.out, NB323_338.out, NB338_323.out, (by repeat (first | (with_reducible first | exact HB.out | apply ba | apply bd | apply be | refine below_set ?_ GE322.out | refine below_set ?_ GE323.out | refine below_set ?_ GE338.out) | exact HB.out))⟩)
        ·skip
         refine box_step ?hg (N := 11) ?hd (cs := #[.slice none 0 0, .slice none 0 0]) (t := 24) ?hr ?_; (case hd => rfl); (case hg => rfl); (case hr => first | (go_simp; done) | (go_simp; rfl))
         intro gb338 hg w47 hbox hb
         have n0_ := am (Kd.R_below (zR HO331.out) hb)
         have n1_ := am (blk_below (zB BK322.out) hb)
         have n2_ := am (blk_below (zB BK323.out) hb)
         have n3_ := am (below_step (zL HB.out) hb)
         have n4_ := am (hbox)
         have n5_ := am (zS hg HB.out)
         have n6_ := am (zS hg HB.out)
         have n7_ := am (zN hg BK322.out)
         have n8_ := am (zM hg BK322.out)
         have n9_ := am (zN hg BK323.out)
         have n10_ := am (zM hg BK323.out)
         clear HO331 BK322 BK323 HB
         have HO331 := n0_
         have BK322 := n1_
         have BK323 := n2_
         have HB := n3_
         have BK338 := n4_
         have GW338 := n5_
         have GE338 := n6_
         have NB322_338 := n7_
         have NB338_322 := n8_
         have NB323_338 := n9_
         have NB338_323 := n10_
         clear n0_ n1_ n2_ n3_ n4_ n5_ n6_ n7_ n8_ n9_ n10_
         clear hb hbox hg
         refine hK.out _ _ ⟨(blk_cell BK322.out 0).trans rfl, (blk_cell BK322.out 1).trans rfl⟩ (fun hHeld => ?_)
         clear hK K
         refine norm_ (a' := ?_) ?_ ?_
         rotate_left
         ·show Act.put _ (some 11) _ = _
          simp only [Act.put, List.setIfInBounds_toArray, List.set_cons_zero, List.set_cons_succ, i64_w, i32_w]
          rfl
         refine one_ (i := 2) (N := some 32) #[true, true, true, true, true, false, false, true, false] rfl rfl (one_of HT_.out (by kernel_rfl)) (by decide) (fun K hK => ?_)
         refine Kd.R_append_rows_step (Kd.int .u8) (w0 := w) w.heap.size rfl (.const (.slice none 0 0)) (.tmp 31) 22 5 (.int .u8 0) 1 rfl Try.underlying22 info5 rfl (by decide) (by omega) (.slice none 0 0) ([] : List Int) l0_0 _ _ _ (fun k_ => some k_ ≠ (.slice Ao44 y329.length co44 : Value).ownBlock) (fun _ => False) rfl rfl ?aO ?aR (fun _ _ h => h) (fun _ h => h.elim) ?aF ?aB ?aS ?aL ?_
         (case aR => exact zC (Kd.C_below HR0_0.out HB.out))
         (case aB => exact (by repeat (first | (with_reducible first | exact HB.out | apply ba | apply bd | apply be | refine below_set ?_ GE322.out | refine below_set ?_ GE323.out | refine below_set ?_ GE338.out) | exact HB.out)))
         (case aF => exact (fun k_ hk => Kd.fresh' (Kd.R_lt (zR HO331.out)) k_ hk))
         (case aO => exact ((Kd.R_nil _ _ _ _ (fun k_ => some k_ ≠ (.slice Ao44 y329.length co44 : Value).ownBlock))))
         (case aS => exact (below_size (zL HB.out)))
         (case aL => have := LMc10.out; omega)
         intro v333 w48 ho hb hg hat
         rw [← Ny332.out] at ho
         have n0_ := am (blk_grown (g := gb322) (o := .cells #[.slice A0_0 l0_0.length c0_0, .slice A0_1 l0_1.length c0_1] 24 (0, 0)) (zB BK322.out) hg (by simp [Value.ownBlock]))
         have n1_ := am (blk_grown (g := gb323) (o := .cells #[.slice none 0 0, .slice none 0 0] 24 (0, 0)) (zB BK323.out) hg (by simp [Value.ownBlock]))
         have n2_ := am (Kd.R_after (Kd.R_apart_nil (zR HO331.out)) hg hat)
         have n3_ := am (blk_grown (g := gb338) (o := .cells #[.slice none 0 0, .slice none 0 0] 24 (0, 0)) (zB BK338.out) hg (by simp [Value.ownBlock]))
         have n4_ := am (hb)
         have n5_ := am (ho)
         clear BK322 BK323 HO331 BK338 HB
         have BK322 := n0_
         have BK323 := n1_
         have HO331 := n2_
         have BK338 := n3_
         have HB := n4_
         have HO334 := n5_
         clear n0_ n1_ n2_ n3_ n4_ n5_
         clear ho hb hg hat
         refine hK.out _ _ ⟨(blk_cell BK322.out 0).trans rfl, (blk_cell BK322.out 1).trans rfl⟩ (fun hHeld => ?_)
         clear hK K
         refine norm_ (a' := ?_) ?_ ?_
         rotate_left
         ·show Act.put _ (some 32) _ = _
          simp only [Act.put, List.setIfInBounds_toArray, List.set_cons_zero, List.set_cons_succ, i64_w, i32_w]
          rfl
         refine one_ (i := 5) (N := some 35) #[true, true, true, true, true, true, false, true, false] rfl rfl (one_of HT_.out (by kernel_rfl)) (by decide) (fun K hK => ?_)
         refine Kd.R_append_rows_step (Kd.int .u8) (w0 := w) w.heap.size rfl (.const (.slice none 0 0)) (.tmp 34) 22 5 (.int .u8 0) 1 rfl Try.underlying22 info5 rfl (by decide) (by omega) (.slice none 0 0) ([] : List Int) l0_1 _ _ _ (fun k_ => some k_ ≠ (.slice Ao44 y329.length co44 : Value).ownBlock ∧ some k_ ≠ (v333 : Value).ownBlock) (fun _ => False) rfl rfl ?aO ?aR (fun _ _ h => h) (fun _ h => h.elim) ?aF ?aB ?aS ?aL ?_
         (case aR => exact zC (Kd.C_below HR0_1.out HB.out))
         (case aB => exact (by repeat (first | (with_reducible first | exact HB.out | apply ba | apply bd | apply be | refine below_set ?_ GE322.out | refine below_set ?_ GE323.out | refine below_set ?_ GE338.out) | exact HB.out)))
         (case aF => exact (fun k_ hk => ⟨Kd.fresh' (Kd.R_lt (zR HO331.out)) k_ hk, Kd.fresh' (Kd.R_lt (zR HO334.out)) k_ hk⟩))
         (case aO => exact ((Kd.R_nil _ _ _ _ (fun k_ => some k_ ≠ (.slice Ao44 y329.length co44 : Value).ownBlock ∧ some k_ ≠ (v333 : Value).ownBlock))))
         (case aS => exact (below_size (zL HB.out)))
         (case aL => have := LMc11.out; omega)
         intro v336 w49 ho hb hg hat
         rw [← Ny335.out] at ho
         have n0_ := am (blk_grown (g := gb322) (o := .cells #[.slice A0_0 l0_0.length c0_0, .slice A0_1 l0_1.length c0_1] 24 (0, 0)) (zB BK322.out) hg (by simp [Value.ownBlock]))
         have n1_ := am (blk_grown (g := gb323) (o := .cells #[.slice none 0 0, .slice none 0 0] 24 (0, 0)) (zB BK323.out) hg (by simp [Value.ownBlock]))
         have n2_ := am (Kd.R_after (Kd.R_apart_nil (zR HO331.out)) hg hat)
         have n3_ := am (blk_grown (g := gb338) (o := .cells #[.slice none 0 0, .slice none 0 0] 24 (0, 0)) (zB BK338.out) hg (by simp [Value.ownBlock]))
         have n4_ := am (Kd.R_after (Kd.R_apart_nil (zR HO334.out)) hg hat)
         have n5_ := am (hb)
         have n6_ := am (ho)
         clear BK322 BK323 HO331 BK338 HO334 HB
         have BK322 := n0_
         have BK323 := n1_
         have HO331 := n2_
         have BK338 := n3_
         have HO334 := n4_
         have HB := n5_
         have HO337 := n6_
         clear n0_ n1_ n2_ n3_ n4_ n5_ n6_
         clear ho hb hg hat
         obtain ⟨Ao50, co50, eo50⟩ := Kd.R_slice HO337.out
         (first | subst eo50 | (injection eo50 with f1_ f2_ f3_; have f4_ := f1_.symm; have f5_ := f3_.symm; clear f1_ f2_ f3_; subst f4_; subst f5_))
         obtain ⟨Ao51, co51, eo51⟩ := Kd.R_slice HO334.out
         (first | subst eo51 | (injection eo51 with f1_ f2_ f3_; have f4_ := f1_.symm; have f5_ := f3_.symm; clear f1_ f2_ f3_; subst f4_; subst f5_))
         refine hK.out _ _ ⟨(blk_cell BK322.out 0).trans rfl, (blk_cell BK322.out 1).trans rfl⟩ (fun hHeld => ?_)
         clear hK K
         refine norm_ (a' := ?_) ?_ ?_
         rotate_left
         ·show Act.put _ (some 35) _ = _
          simp only [Act.put, List.setIfInBounds_toArray, List.set_cons_zero, List.set_cons_succ, i64_w, i32_w]
          rfl
         refine pure_ (i := 6) (N := some 36) (v := ?_) (a' := ?_) #[true, true, true, true, true, true, true, true, false] rfl rfl (any_of HT_.out (by kernel_rfl)) (fun _ _ _ h => h) (Or.inl ⟨by rfl, ?_⟩) ?_ ?_
         rotate_left
         ·intro w'
          go_simp
          with_reducible rfl
         rotate_left
         ·simp only [Act.put, List.setIfInBounds_toArray, List.set_cons_zero, List.set_cons_succ, i64_w, i32_w]
          rfl
         exact norm_ (by simp only [putAll, Act.put, List.setIfInBounds_toArray, List.set_cons_zero, List.set_cons_succ]) (hCont (.slice Ao51 y332.length co51, .slice Ao50 y335.length co50, gb338) _ ⟨hHeld, (by exact zR <| Kd.R_mono HO331.out (fun _ hk => ⟨hk.1.2, hk.2⟩)), (zR HO334.out), (zR HO337.out), (zB BK322.out), (zB BK323.out), (zB BK338.out), GW338.out, GE338.out, NB322_338.out, NB338_322.out, NB323_338.out, NB338_323.out, (by repeat (first | (with_reducible first | exact HB.out | apply ba | apply bd | apply be | refine below_set ?_ GE322.out | refine below_set ?_ GE323.out | refine below_set ?_ GE338.out) | exact HB.out))⟩)
       rintro ⟨v333, v336, gb338⟩ w52 ⟨hS_, h0_, h1_, h2_, h3_, h4_, h5_, h6_, h7_, h8_, h9_, h10_, h11_, h12_⟩
       have n0_ : Aside0 (Kd.R (Kd.int .u8) 5 w52 w.heap.size (fun k_ => some k_ ≠ (v333 : Value).ownBlock ∧ some k_ ≠ (v336 : Value).ownBlock) (.slice Ao44 y329.length co44) y329) := ⟨h0_⟩
       have n1_ : Aside0 (Kd.R (Kd.int .u8) 5 w52 w.heap.size (fun k_ => some k_ ≠ (.slice Ao44 y329.length co44 : Value).ownBlock ∧ some k_ ≠ (v336 : Value).ownBlock) v333 y332) := ⟨h1_⟩
       have n2_ : Aside0 (Kd.R (Kd.int .u8) 5 w52 w.heap.size (fun k_ => some k_ ≠ (.slice Ao44 y329.length co44 : Value).ownBlock ∧ some k_ ≠ (v333 : Value).ownBlock) v336 y335) := ⟨h2_⟩
       have n3_ : Aside0 (w52.heap[gb322]? = some (.cells #[.slice A0_0 l0_0.length c0_0, .slice A0_1 l0_1.length c0_1] 24 (0, 0))) := ⟨h3_⟩
       have n4_ : Aside0 (w52.heap[gb323]? = some (.cells #[.slice none 0 0, .slice none 0 0] 24 (0, 0))) := ⟨h4_⟩
       have n5_ : Aside0 (w52.heap[gb338]? = some (.cells #[.slice none 0 0, .slice none 0 0] 24 (0, 0))) := ⟨h5_⟩
       have n6_ : Aside0 (w.heap.size ≤ gb338) := ⟨h6_⟩
       have n7_ : Aside0 (w.heap.size ≤ gb338) := ⟨h7_⟩
       have n8_ : Aside0 (gb322 ≠ gb338) := ⟨h8_⟩
       have n9_ : Aside0 (gb338 ≠ gb322) := ⟨h9_⟩
       have n10_ : Aside0 (gb323 ≠ gb338) := ⟨h10_⟩
       have n11_ : Aside0 (gb338 ≠ gb323) := ⟨h11_⟩
       have n12_ : Aside0 (Below w.heap.size w w52) := ⟨h12_⟩
       clear HO331 BK322 BK323 HB
       clear h0_ h1_ h2_ h3_ h4_ h5_ h6_ h7_ h8_ h9_ h10_ h11_ h12_
       have HO331 := n0_
       have HO334 := n1_
       have HO337 := n2_
       have BK322 := n3_
       have BK323 := n4_
       have BK338 := n5_
       have GW338 := n6_
       have GE338 := n7_
       have NB322_338 := n8_
       have NB338_322 := n9_
       have NB323_338 := n10_
       have NB338_323 := n11_
       have HB := n12_
       clear n0_ n1_ n2_ n3_ n4_ n5_ n6_ n7_ n8_ n9_ n10_ n11_ n12_
       have hHeld : w52.cell? ⟨gb322, 0, none⟩ = some (.slice A0_0 l0_0.length c0_0) ∧ w52.cell? ⟨gb322, 1, none⟩ = some (.slice A0_1 l0_1.length c0_1) := hS_
       obtain ⟨Ao53, co53, eo53⟩ := Kd.R_slice HO337.out
       (first | subst eo53 | (injection eo53 with f1_ f2_ f3_; have f4_ := f1_.symm; have f5_ := f3_.symm; clear f1_ f2_ f3_; subst f4_; subst f5_))
       obtain ⟨Ao54, co54, eo54⟩ := Kd.R_slice HO334.out
       (first | subst eo54 | (injection eo54 with f1_ f2_ f3_; have f4_ := f1_.symm; have f5_ := f3_.symm; clear f1_ f2_ f3_; subst f4_; subst f5_))
       refine norm_ (a' := ?_) ?_ ?_
       rotate_left
       ·simp only [putAll, Act.put, List.setIfInBounds_toArray, List.set_cons_zero, List.set_cons_succ]
        rfl
       refine one_ (i := 8) (N := none) #[true, true, true, true, true, true, true, true, true] rfl rfl (one_of HT_.out (by kernel_rfl)) (by decide) (fun K hK => ?_)
       have hs55 : w52.cell? ⟨gb338, 0, none⟩ = some (.slice none 0 0) := (blk_cell BK338.out 0).trans rfl
       have hfs55 := blk_frozen BK338.out 0
       have hns55_0 := NB322_338.out
       have hns55_1 := NB323_338.out
       have hms55_0 := NB338_322.out
       have hms55_1 := NB338_323.out
       have hs56 : w52.cell? ⟨gb338, 1, none⟩ = some (.slice none 0 0) := (blk_cell BK338.out 1).trans rfl
       have hfs56 := blk_frozen BK338.out 1
       have hns56_0 := NB322_338.out
       have hns56_1 := NB323_338.out
       have hms56_0 := NB338_322.out
       have hms56_1 := NB338_323.out
       refine skip_ (w1 := ?_) (by rfl) rfl ?_ ?_
       rotate_left
       ·go_simp
        rfl
       refine hK.out _ _ ⟨((cell_far (p := ⟨gb338, _, none⟩) NB322_338.out _).trans (((cell_far (p := ⟨gb338, _, none⟩) NB322_338.out _).trans (hHeld.1)))), ((cell_far (p := ⟨gb338, _, none⟩) NB322_338.out _).trans (((cell_far (p := ⟨gb338, _, none⟩) NB322_338.out _).trans (hHeld.2))))⟩ (fun hHeld => ?_)
       clear hK K
       refine done_ (done_of HT_.out (by kernel_rfl)) ?_
       have n0_ : Aside0 (Kd.R (Kd.int .u8) 5 ((w52.setCell ⟨gb338, 0, none⟩ (.slice Ao54 y332.length co54)).setCell ⟨gb338, 1, none⟩ (.slice Ao53 y335.length co53)) w.heap.size (fun k_ => some k_ ≠ (.slice Ao54 y332.length co54 : Value).ownBlock ∧ some k_ ≠ (.slice Ao53 y335.length co53 : Value).ownBlock) (.slice Ao44 y329.length co44) y329) := ⟨by exact zR <| Kd.R_mono (Kd.R_far (p := ⟨gb338, 1, none⟩) (Kd.R_far (p := ⟨gb338, 0, none⟩) (Kd.R_types HO331.out BK338.out (by decide)) (fun _ hk => hk.2) (.slice Ao54 y332.length co54)) (fun _ hk => hk.2) (.slice Ao53 y335.length co53)) (fun _ hk => ⟨hk.1.1, hk.1.2⟩)⟩
       have n1_ : Aside0 (Kd.R (Kd.int .u8) 5 ((w52.setCell ⟨gb338, 0, none⟩ (.slice Ao54 y332.length co54)).setCell ⟨gb338, 1, none⟩ (.slice Ao53 y335.length co53)) w.heap.size (fun k_ => some k_ ≠ (.slice Ao44 y329.length co44 : Value).ownBlock ∧ some k_ ≠ (.slice Ao53 y335.length co53 : Value).ownBlock) (.slice Ao54 y332.length co54) y332) := ⟨by exact zR <| Kd.R_mono (Kd.R_far (p := ⟨gb338, 1, none⟩) (Kd.R_far (p := ⟨gb338, 0, none⟩) (Kd.R_types HO334.out BK338.out (by decide)) (fun _ hk => hk.2) (.slice Ao54 y332.length co54)) (fun _ hk => hk.2) (.slice Ao53 y335.length co53)) (fun _ hk => ⟨hk.1.1, hk.1.2⟩)⟩
       have n2_ : Aside0 (Kd.R (Kd.int .u8) 5 ((w52.setCell ⟨gb338, 0, none⟩ (.slice Ao54 y332.length co54)).setCell ⟨gb338, 1, none⟩ (.slice Ao53 y335.length co53)) w.heap.size (fun k_ => some k_ ≠ (.slice Ao44 y329.length co44 : Value).ownBlock ∧ some k_ ≠ (.slice Ao54 y332.length co54 : Value).ownBlock) (.slice Ao53 y335.length co53) y335) := ⟨by exact zR <| Kd.R_mono (Kd.R_far (p := ⟨gb338, 1, none⟩) (Kd.R_far (p := ⟨gb338, 0, none⟩) (Kd.R_types HO337.out BK338.out (by decide)) (fun _ hk => hk.2) (.slice Ao54 y332.length co54)) (fun _ hk => hk.2) (.slice Ao53 y335.length co53)) (fun _ hk => ⟨hk.1.1, hk.1.2⟩)⟩
       have n3_ : Aside0 (((w52.setCell ⟨gb338, 0, none⟩ (.slice Ao54 y332.length co54)).setCell ⟨gb338, 1, none⟩ (.slice Ao53 y335.length co53)).heap[gb322]? = some (.cells #[.slice A0_0 l0_0.length c0_0, .slice A0_1 l0_1.length c0_1] 24 (0, 0))) := ⟨by refine blk_far ?_ NB322_338.out _; refine blk_far ?_ NB322_338.out _; exact zB <| BK322.out⟩
       have n4_ : Aside0 (((w52.setCell ⟨gb338, 0, none⟩ (.slice Ao54 y332.length co54)).setCell ⟨gb338, 1, none⟩ (.slice Ao53 y335.length co53)).heap[gb323]? = some (.cells #[.slice none 0 0, .slice none 0 0] 24 (0, 0))) := ⟨by refine blk_far ?_ NB323_338.out _; refine blk_far ?_ NB323_338.out _; exact zB <| BK323.out⟩
       have n5_ : Aside0 (((w52.setCell ⟨gb338, 0, none⟩ (.slice Ao54 y332.length co54)).setCell ⟨gb338, 1, none⟩ (.slice Ao53 y335.length co53)).heap[gb338]? = some (.cells #[.slice Ao54 y332.length co54, .slice Ao53 y335.length co53] 24 (0, 0))) := ⟨by refine blk_put (cs := #[.slice Ao54 y332.length co54, .slice none 0 0]) ?_ 1 _ rfl; refine blk_put (cs := #[.slice none 0 0, .slice none 0 0]) ?_ 0 _ rfl; exact zB <| BK338.out⟩
       have n6_ : Aside0 (Below w.heap.size w ((w52.setCell ⟨gb338, 0, none⟩ (.slice Ao54 y332.length co54)).setCell ⟨gb338, 1, none⟩ (.slice Ao53 y335.length co53))) := ⟨by repeat (first | (with_reducible first | exact HB.out | apply ba | apply bd | apply be | refine below_set ?_ GE322.out | refine below_set ?_ GE323.out | refine below_set ?_ GE338.out) | exact HB.out)⟩
       (try clear HO331)
       (try clear HO334)
       (try clear HO337)
       (try clear BK322)
       (try clear BK323)
       (try clear BK338)
       (try clear HB)
       generalize ((w52.setCell ⟨gb338, 0, none⟩ (.slice Ao54 y332.length co54)).setCell ⟨gb338, 1, none⟩ (.slice Ao53 y335.length co53)) = w57 at n0_ n1_ n2_ n3_ n4_ n5_ n6_ ⊢
       have HO331 := n0_
       have HO334 := n1_
       have HO337 := n2_
       have BK322 := n3_
       have BK323 := n4_
       have BK338 := n5_
       have HB := n6_
       clear n0_ n1_ n2_ n3_ n4_ n5_ n6_
       have hnb58 := NB338_322.out
       have hnc58 := NB322_338.out
       have hnb59 := NB338_323.out
       have hnc59 := NB323_338.out
       have hcz60_0 : w57.cell? ⟨gb338, 0, none⟩ = some (.slice Ao54 y332.length co54) := (blk_cell BK338.out 0).trans rfl
       have hcz60_1 : w57.cell? ⟨gb338, 1, none⟩ = some (.slice Ao53 y335.length co53) := (blk_cell BK338.out 1).trans rfl
       have hfz60_0 := blk_frozen BK338.out 0
       have hfz60_1 := blk_frozen BK338.out 1
       try go_wp2_with (first | ((with_reducible refine gate_store (t := 22) (p := 41) rfl ?_); refine store_event (t := 22) (p := 41) (v := ?vo_w61) (w1 := (w57.setCell ⟨gb338, 1, none⟩ (.slice Ao44 y329.length co44))) ?hg ?ho ?hn ?hr ?_; (case ho => rfl); (case hg => rfl); (case hn => rfl); (case hr => first | (go_simp; done) | (go_simp; rfl)); intro w61 hw; have n0_ : Aside0 (Kd.R (Kd.int .u8) 5 w61 w.heap.size (fun k_ => some k_ ≠ (.slice Ao54 y332.length co54 : Value).ownBlock ∧ some k_ ≠ (.slice Ao53 y335.length co53 : Value).ownBlock) (.slice Ao44 y329.length co44) y329) := ⟨(by rw [hw]; exact (by exact zR <| Kd.R_mono (Kd.R_far (p := ⟨gb338, 1, none⟩) (Kd.R_types HO331.out BK338.out (by decide)) (fun _ hk => hk.2) (.slice Ao44 y329.length co44)) (fun _ hk => ⟨hk.1.1, hk.1.2⟩)))⟩; have n1_ : Aside0 (Kd.R (Kd.int .u8) 5 w61 w.heap.size (fun k_ => some k_ ≠ (.slice Ao44 y329.length co44 : Value).ownBlock ∧ some k_ ≠ (.slice Ao53 y335.length co53 : Value).ownBlock) (.slice Ao54 y332.length co54) y332) := ⟨(by rw [hw]; exact (by exact zR <| Kd.R_mono (Kd.R_far (p := ⟨gb338, 1, none⟩) (Kd.R_types HO334.out BK338.out (by decide)) (fun _ hk => hk.2) (.slice Ao44 y329.length co44)) (fun _ hk => ⟨hk.1.1, hk.1.2⟩)))⟩; have n2_ : Aside0 (Kd.R (Kd.int .u8) 5 w61 w.heap.size (fun k_ => some k_ ≠ (.slice Ao44 y329.length co44 : Value).ownBlock ∧ some k_ ≠ (.slice Ao54 y332.length co54 : Value).ownBlock) (.slice Ao53 y335.length co53) y335) := ⟨(by rw [hw]; exact (by exact zR <| Kd.R_mono (Kd.R_far (p := ⟨gb338, 1, none⟩) (Kd.R_types HO337.out BK338.out (by decide)) (fun _ hk => hk.2) (.slice Ao44 y329.length co44)) (fun _ hk => ⟨hk.1.1, hk.1.2⟩)))⟩; have n3_ : Aside0 (w61.heap[gb322]? = some (.cells #[.slice A0_0 l0_0.length c0_0, .slice A0_1 l0_1.length c0_1] 24 (0, 0))) := ⟨(by rw [hw]; exact (by refine blk_far ?_ NB322_338.out _; exact zB <| BK322.out))⟩; have n4_ : Aside0 (w61.heap[gb323]? = some (.cells #[.slice none 0 0, .slice none 0 0] 24 (0, 0))) := ⟨(by rw [hw]; exact (by refine blk_far ?_ NB323_338.out _; exact zB <| BK323.out))⟩; have n5_ : Aside0 (w61.heap[gb338]? = some (.cells #[.slice Ao54 y332.length co54, .slice Ao44 y329.length co44] 24 (0, 0))) := ⟨(by rw [hw]; exact (by refine blk_put (cs := #[.slice Ao54 y332.length co54, .slice Ao53 y335.length co53]) ?_ 1 _ rfl; exact zB <| BK338.out))⟩; have n6_ : Aside0 (Below w.heap.size w w61) := ⟨(by rw [hw]; exact (by repeat (first | (with_reducible first | exact HB.out | apply ba | apply bd | apply be | refine below_set ?_ GE322.out | refine below_set ?_ GE323.out | refine below_set ?_ GE338.out) | exact HB.out)))⟩; clear hw HO331 HO334 HO337 BK322 BK323 BK338 HB; have HO331 := n0_; have HO334 := n1_; have HO337 := n2_; have BK322 := n3_; have BK323 := n4_; have BK338 := n5_; have HB := n6_; clear n0_ n1_ n2_ n3_ n4_ n5_ n6_; have hcz62_0 : w61.cell? ⟨gb338, 0, none⟩ = some (.slice Ao54 y332.length co54) := (blk_cell BK338.out 0).trans rfl; have hcz62_1 : w61.cell? ⟨gb338, 1, none⟩ = some (.slice Ao44 y329.length co44) := (blk_cell BK338.out 1).trans rfl; have hfz62_0 := blk_frozen BK338.out 0; have hfz62_1 := blk_frozen BK338.out 1; have hcz63_0 : w61.cell? ⟨gb323, 0, none⟩ = some (.slice none 0 0) := (blk_cell BK323.out 0).trans rfl; have hcz63_1 : w61.cell? ⟨gb323, 1, none⟩ = some (.slice none 0 0) := (blk_cell BK323.out 1).trans rfl; have hfz63_0 := blk_frozen BK323.out 0; have hfz63_1 := blk_frozen BK323.out 1) | ((with_reducible refine gate_store (t := 24) (p := 6) rfl ?_); refine store_event (t := 24) (p := 6) (v := ?vo_w64) (w1 := ((w61.setCell ⟨gb323, 0, none⟩ (.slice Ao54 y332.length co54)).setCell ⟨gb323, 1, none⟩ (.slice Ao44 y329.length co44))) ?hg ?ho ?hn ?hr ?_; (case ho => rfl); (case hg => rfl); (case hn => rfl); (case hr => first | (go_simp; done) | (go_simp; rfl)); intro w64 hw; have n0_ : Aside0 (Kd.R (Kd.int .u8) 5 w64 w.heap.size (fun k_ => some k_ ≠ (.slice Ao54 y332.length co54 : Value).ownBlock ∧ some k_ ≠ (.slice Ao53 y335.length co53 : Value).ownBlock) (.slice Ao44 y329.length co44) y329) := ⟨(by rw [hw]; exact (by exact zR <| Kd.R_mono (Kd.R_far (p := ⟨gb323, 1, none⟩) (Kd.R_far (p := ⟨gb323, 0, none⟩) (Kd.R_types HO331.out BK323.out (by decide)) (fun _ hk => hk.2) (.slice Ao54 y332.length co54)) (fun _ hk => hk.2) (.slice Ao44 y329.length co44)) (fun _ hk => ⟨hk.1.1, hk.1.2⟩)))⟩; have n1_ : Aside0 (Kd.R (Kd.int .u8) 5 w64 w.heap.size (fun k_ => some k_ ≠ (.slice Ao44 y329.length co44 : Value).ownBlock ∧ some k_ ≠ (.slice Ao53 y335.length co53 : Value).ownBlock) (.slice Ao54 y332.length co54) y332) := ⟨(by rw [hw]; exact (by exact zR <| Kd.R_mono (Kd.R_far (p := ⟨gb323, 1, none⟩) (Kd.R_far (p := ⟨gb323, 0, none⟩) (Kd.R_types HO334.out BK323.out (by decide)) (fun _ hk => hk.2) (.slice Ao54 y332.length co54)) (fun _ hk => hk.2) (.slice Ao44 y329.length co44)) (fun _ hk => ⟨hk.1.1, hk.1.2⟩)))⟩; have n2_ : Aside0 (Kd.R (Kd.int .u8) 5 w64 w.heap.size (fun k_ => some k_ ≠ (.slice Ao44 y329.length co44 : Value).ownBlock ∧ some k_ ≠ (.slice Ao54 y332.length co54 : Value).ownBlock) (.slice Ao53 y335.length co53) y335) := ⟨(by rw [hw]; exact (by exact zR <| Kd.R_mono (Kd.R_far (p := ⟨gb323, 1, none⟩) (Kd.R_far (p := ⟨gb323, 0, none⟩) (Kd.R_types HO337.out BK323.out (by decide)) (fun _ hk => hk.2) (.slice Ao54 y332.length co54)) (fun _ hk => hk.2) (.slice Ao44 y329.length co44)) (fun _ hk => ⟨hk.1.1, hk.1.2⟩)))⟩; have n3_ : Aside0 (w64.heap[gb322]? = some (.cells #[.slice A0_0 l0_0.length c0_0, .slice A0_1 l0_1.length c0_1] 24 (0, 0))) := ⟨(by rw [hw]; exact (by refine blk_far ?_ NB322_323.out _; refine blk_far ?_ NB322_323.out _; exact zB <| BK322.out))⟩; have n4_ : Aside0 (w64.heap[gb323]? = some (.cells #[.slice Ao54 y332.length co54, .slice Ao44 y329.length co44] 24 (0, 0))) := ⟨(by rw [hw]; exact (by refine blk_put (cs := #[.slice Ao54 y332.length co54, .slice none 0 0]) ?_ 1 _ rfl; refine blk_put (cs := #[.slice none 0 0, .slice none 0 0]) ?_ 0 _ rfl; exact zB <| BK323.out))⟩; have n5_ : Aside0 (w64.heap[gb338]? = some (.cells #[.slice Ao54 y332.length co54, .slice Ao44 y329.length co44] 24 (0, 0))) := ⟨(by rw [hw]; exact (by refine blk_far ?_ NB338_323.out _; refine blk_far ?_ NB338_323.out _; exact zB <| BK338.out))⟩; have n6_ : Aside0 (Below w.heap.size w w64) := ⟨(by rw [hw]; exact (by repeat (first | (with_reducible first | exact HB.out | apply ba | apply bd | apply be | refine below_set ?_ GE322.out | refine below_set ?_ GE323.out | refine below_set ?_ GE338.out) | exact HB.out)))⟩; clear hw HO331 HO334 HO337 BK322 BK323 BK338 HB; have HO331 := n0_; have HO334 := n1_; have HO337 := n2_; have BK322 := n3_; have BK323 := n4_; have BK338 := n5_; have HB := n6_; clear n0_ n1_ n2_ n3_ n4_ n5_ n6_))
       refine bodyPost_ret (results_ct rfl _ _ gb323 24 #[.slice Ao54 y332.length co54, .slice Ao44 y329.length co44] (0, 0) _ rfl (zB BK323.out) Try.underlying24 rfl (by kernel_rfl)) rfl ?_
       exact ⟨_, _, by first | rfl | (simp [errW_none, errW_some] <;> rfl) | (simp only [← hji6, ← hji7]; first | rfl | (simp [errW_none, errW_some] <;> rfl)) | (simp [*, errW_none, errW_some] <;> rfl), by exact zR <| Kd.R_mono HO334.out (fun _ hk => hk.1), by exact zR <| Kd.R_mono HO331.out (fun _ hk => hk.1), by repeat (first | (with_reducible first | exact HB.out | apply ba | apply bd | apply be | refine below_set ?_ GE322.out | refine below_set ?_ GE323.out | refine below_set ?_ GE338.out) | exact HB.out)⟩
     ·rw [if_neg c11] at H
      exact absurd H (by simp)
    ·rw [if_neg c10] at H
     exact absurd H (by simp)
   ·rw [if_neg c9] at H
    exact absurd H (by simp)
  ·rw [if_neg c8] at H
   exact absurd H (by simp)
 ·rw [if_neg c5] at H
  have c5b0 : (t328 == 0) = false := beq_eq_false_iff_ne.mpr c5
  have c5b1 : (t328 != 0) = true := bne_iff_ne.mpr c5
  simp only [Option.some.injEq, Prod.mk.injEq] at H
  obtain ⟨rfl, rfl, rfl⟩ := H
  go_enter Try.func13, Try.ntmps13
  go_wp2_with (first | ((with_reducible refine gate_dst (N := 3) rfl ?_); refine box_event ?hg (N := 3) ?hd (cs := #[.slice A0_0 l0_0.length c0_0, .slice A0_1 l0_1.length c0_1]) (t := 24) ?hr ?_; (case hd => rfl); (case hg => rfl); (case hr => first | (go_simp; done) | (go_simp; rfl)); intro gb322 hg w65 hbox hb; have n0_ := am (below_step (zL HB.out) hb); have n1_ := am (hbox); have n2_ := am (zS hg HB.out); have n3_ := am (zS hg HB.out); clear HB; have HB := n0_; have BK322 := n1_; have GW322 := n2_; have GE322 := n3_; clear n0_ n1_ n2_ n3_; clear hb hbox hg) | ((with_reducible refine gate_dst (N := 6) rfl ?_); refine box_event ?hg (N := 6) ?hd (cs := #[.slice none 0 0, .slice none 0 0]) (t := 24) ?hr ?_; (case hd => rfl); (case hg => rfl); (case hr => first | (go_simp; done) | (go_simp; rfl)); intro gb323 hg w66 hbox hb; have n0_ := am (blk_below (zB BK322.out) hb); have n1_ := am (below_step (zL HB.out) hb); have n2_ := am (hbox); have n3_ := am (zS hg HB.out); have n4_ := am (zS hg HB.out); have n5_ := am (zN hg BK322.out); have n6_ := am (zM hg BK322.out); clear BK322 HB; have BK322 := n0_; have HB := n1_; have BK323 := n2_; have GW323 := n3_; have GE323 := n4_; have NB322_323 := n5_; have NB323_322 := n6_; clear n0_ n1_ n2_ n3_ n4_ n5_ n6_; clear hb hbox hg; have hnb67 := NB322_323.out; have hnc67 := NB323_322.out; have hcz68_0 : w66.cell? ⟨gb322, 0, none⟩ = some (.slice A0_0 l0_0.length c0_0) := (blk_cell BK322.out 0).trans rfl; have hcz68_1 : w66.cell? ⟨gb322, 1, none⟩ = some (.slice A0_1 l0_1.length c0_1) := (blk_cell BK322.out 1).trans rfl; have hfz68_0 := blk_frozen BK322.out 0; have hfz68_1 := blk_frozen BK322.out 1) | ((with_reducible refine gate_callee (f := 27) rfl ?_); refine goesL_ (some 15) rfl rfl Try.func27 (by kernel_rfl) rfl #[.agg #[.slice A0_0 l0_0.length c0_0, .slice A0_1 l0_1.length c0_1], .slice A1 l1.length c1] rfl (by (try simp only [List.map_toArray, List.map_cons, List.map_nil]); first | done | rfl | (simp only [List.length_drop, List.length_take]; rfl)) ?_; (with_reducible refine (clusterlocksref26_next.calls k _ _ l0_0 _ _ l0_1 _ _ l1 t324 t327 t328 _ ?side1 ?side2 ?side3 ?side4 ?side5 ?side6 A4.out).mono ?_); (case side1 => exact zC (Kd.C_below HR0_0.out HB.out)); (case side2 => exact HC0_0.out); (case side3 => exact zC (Kd.C_below HR0_1.out HB.out)); (case side4 => exact HC0_1.out); (case side5 => exact zC (Kd.C_below HR1.out HB.out)); (case side6 => exact HC1.out); rintro e w69 ⟨v325, rfl, ho0, hb⟩; refine ⟨_, rfl, ?_⟩; have n0_ := am (Kd.R_lower ho0 (below_size (zL HB.out))); have n1_ := am (blk_below (zB BK322.out) hb); have n2_ := am (blk_below (zB BK323.out) hb); have n3_ := am (below_step (zL HB.out) hb); clear BK322 BK323 HB; have HO326 := n0_; have BK322 := n1_; have BK323 := n2_; have HB := n3_; clear n0_ n1_ n2_ n3_; (try clear hb); (try clear hb2); (try clear hk); (try clear hi); (try clear ho0); have hcz70_0 : w69.cell? ⟨gb323, 0, none⟩ = some (.slice none 0 0) := (blk_cell BK323.out 0).trans rfl; have hcz70_1 : w69.cell? ⟨gb323, 1, none⟩ = some (.slice none 0 0) := (blk_cell BK323.out 1).trans rfl; have hfz70_0 := blk_frozen BK323.out 0; have hfz70_1 := blk_frozen BK323.out 1) | ((with_reducible refine gate_store (t := 24) (p := 6) rfl ?_); refine store_event (t := 24) (p := 6) (v := ?vo_w71) (w1 := ((w69.setCell ⟨gb323, 0, none⟩ (.slice none 0 0)).setCell ⟨gb323, 1, none⟩ (.slice none 0 0))) ?hg ?ho ?hn ?hr ?_; (case ho => rfl); (case hg => rfl); (case hn => rfl); (case hr => first | (go_simp; done) | (go_simp; rfl)); intro w71 hw; have n0_ : Aside0 (Kd.R (Kd.int .u8) 5 w71 w.heap.size (fun _ => True) v325 t324) := ⟨(by rw [hw]; exact (by exact zR <| Kd.R_mono (Kd.R_far (p := ⟨gb323, 1, none⟩) (Kd.R_far (p := ⟨gb323, 0, none⟩) (Kd.R_types HO326.out BK323.out (by decide)) (fun _ hk => hk.2) (.slice none 0 0)) (fun _ hk => hk.2) (.slice none 0 0)) (fun _ hk => trivial)))⟩; have n1_ : Aside0 (w71.heap[gb322]? = some (.cells #[.slice A0_0 l0_0.length c0_0, .slice A0_1 l0_1.length c0_1] 24 (0, 0))) := ⟨(by rw [hw]; exact (by refine blk_far ?_ NB322_323.out _; refine blk_far ?_ NB322_323.out _; exact zB <| BK322.out))⟩; have n2_ : Aside0 (w71.heap[gb323]? = some (.cells #[.slice none 0 0, .slice none 0 0] 24 (0, 0))) := ⟨(by rw [hw]; exact (by refine blk_put (cs := #[.slice none 0 0, .slice none 0 0]) ?_ 1 _ rfl; refine blk_put (cs := #[.slice none 0 0, .slice none 0 0]) ?_ 0 _ rfl; exact zB <| BK323.out))⟩; have n3_ : Aside0 (Below w.heap.size w w71) := ⟨(by rw [hw]; exact (by repeat (first | (with_reducible first | exact HB.out | apply ba | apply bd | apply be | refine below_set ?_ GE322.out | refine below_set ?_ GE323.out) | exact HB.out)))⟩; clear hw HO326 BK322 BK323 HB; have HO326 := n0_; have BK322 := n1_; have BK323 := n2_; have HB := n3_; clear n0_ n1_ n2_ n3_))
  refine bodyPost_ret (results_ct rfl _ _ gb323 24 #[.slice none 0 0, .slice none 0 0] (0, 0) _ rfl (zB BK323.out) Try.underlying24 rfl (by kernel_rfl)) rfl ?_
  exact ⟨_, _, by first | rfl | (simp [errW_none, errW_some] <;> rfl) | (simp [*, errW_none, errW_some] <;> rfl), by first | exact Kd.R_nil _ _ _ _ _ | exact Kd.N_nil _ _ _ _ _ | exact Kd.V_nil _ _ _ _ _ | exact Kd.Q_nil _ _ _ _ _ | exact Kd.S_nil _ _ _ _ _, by first | exact Kd.R_nil _ _ _ _ _ | exact Kd.N_nil _ _ _ _ _ | exact Kd.V_nil _ _ _ _ _ | exact Kd.Q_nil _ _ _ _ _ | exact Kd.S_nil _ _ _ _ _, by repeat (first | (with_reducible first | exact HB.out | apply ba | apply bd | apply be | refine below_set ?_ GE322.out | refine below_set ?_ GE323.out) | exact HB.out)⟩

end Go.Proofs.Ytjdicbffpbpenaa.Y

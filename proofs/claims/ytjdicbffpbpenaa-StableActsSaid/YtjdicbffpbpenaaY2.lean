-- Laid by a program of this session's (xprint.py, which runs the kit's print.py with patches of its own). Lean checks it.
import Derived.Test.YtjdicbffpbpenaaY0
import Derived.Test.YtjdicbffpbpenaaY1
namespace Go.Proofs.Ytjdicbffpbpenaa.Y
open Go.RowKit Go.Proofs.YtjdicbffpbpenaaW.PrintWords Go.Proofs.YtjdicbffpbpenaaW.PrintLast Go.Proofs.YtjdicbffpbpenaaW.PrintMore
attribute [local go_sem] max2_int min2_int max_two min_two max_three min_three max_four min_four   -- for this text's walks alone
set_option linter.unusedVariables false
set_option linter.unusedSimpArgs false

/-! ### stable_whole: function 28 -/
def stable_whole.j0 : Nat → List Int → Bool → Option (List Int × Int × Bool)
 | 0, _, _ => none
 | k + 1, x5, x23 => if x23 = true then (some (([] : List Int), 0, false)) else ((codec_Uint.f k x5).bind fun bt132 => (if bt132.2.2 = 0 then (if bt132.1 < 1 then (some (([] : List Int), 0, false)) else (if bt132.1 > 1073741824 then (some (([] : List Int), 0, false)) else (if (wrap64 ((x5.length : Int) - bt132.2.1)) > 512 then (some (([] : List Int), 0, false)) else (if 0 ≤ bt132.2.1 then (if bt132.2.1 ≤ (x5.length : Int) then ((slices_Clone_byte_byte.f (x5.drop (bt132.2.1 : Int).toNat)).bind fun t139 => (some (t139, wrap64 (bt132.1), true))) else (none)) else (none))))) else (some (([] : List Int), 0, false))))
def stable_whole.f (k : Nat) (l0 : List Int) : Option (List Int × Int × Bool) := (codec_Unframe.f k l0).bind fun bt127 => (if bt127.2.2 = 0 then (stable_whole.j0 k bt127.1 (bt127.2.1 != (l0.length : Int))) else (stable_whole.j0 k bt127.1 true))
theorem stable_whole.mono_l : ∀ k, (∀ y0 y1, LeO (stable_whole.j0 k y0 y1) (stable_whole.j0 (k + 1) y0 y1))
 | 0 => fun _ _ r h => by simp [stable_whole.j0] at h
 | k + 1 => by
  have ih0 := stable_whole.mono_l k
  ·intro y0 y1
   unfold stable_whole.j0
   repeat' first
   | (with_reducible exact ih0 _ _)
   | (with_reducible exact codec_Uint.mono _ _)
   | (with_reducible exact codec_Unframe.mono _ _)
   | (with_reducible exact LeO.refl _)
   | (with_reducible exact LeO.none _)
   | (with_reducible refine LeO.ite ?_ ?_)
   | (with_reducible refine LeO.bind ?_ (fun _ => ?_))
   | exact ih0 _ _
   | exact codec_Uint.mono _ _
   | exact codec_Unframe.mono _ _
   | exact LeO.none _
   | refine LeO.ite ?_ ?_
   | refine LeO.bind ?_ (fun _ => ?_)
theorem stable_whole.mono : ∀ a0 k, LeO (stable_whole.f k a0) (stable_whole.f (k + 1) a0) := by
 intro a0 k
 have ih0 := stable_whole.mono_l k
 unfold stable_whole.f
 repeat' first
   | (with_reducible exact ih0 _ _)
   | (with_reducible exact codec_Uint.mono _ _)
   | (with_reducible exact codec_Unframe.mono _ _)
   | (with_reducible exact LeO.refl _)
   | (with_reducible exact LeO.none _)
   | (with_reducible refine LeO.ite ?_ ?_)
   | (with_reducible refine LeO.bind ?_ (fun _ => ?_))
   | exact ih0 _ _
   | exact codec_Uint.mono _ _
   | exact codec_Unframe.mono _ _
   | exact LeO.none _
   | refine LeO.ite ?_ ?_
   | refine LeO.bind ?_ (fun _ => ?_)
set_option maxHeartbeats 8000000 in
set_option maxRecDepth 100000 in
theorem stable_whole.calls (k : Nat) (A0 : Option Addr) (c0 : Nat) (l0 : List Int) (r1 : List Int) (r2 : Int) (r3 : Bool) (w : World) (hr0 : Kd.C (Kd.int .u8) w A0 l0.length l0) (hc0 : l0.length ≤ c0) (h : stable_whole.f k l0 = some (r1, r2, r3)) :
  Calls Try.prog 28 #[.slice A0 l0.length c0] w fun e w' => ∃ v0_ : Value, e = .returned (.tuple #[v0_, .int .i64 r2, .bool r3]) ∧ Kd.R (Kd.int .u8) 5 w' w.heap.size (fun _ => True) v0_ r1 ∧ Below w.heap.size w w' := by
 have HR0 := Aside0.mk hr0
 have HC0 := Aside0.mk hc0
 clear hr0 hc0
 have HB := am (Below.refl w.heap.size w)
 have H : ((codec_Unframe.f k l0).bind fun bt127 => (if bt127.2.2 = 0 then (stable_whole.j0 k bt127.1 (bt127.2.1 != (l0.length : Int))) else (stable_whole.j0 k bt127.1 true))) = some (r1, r2, r3) := h
 clear h
 replace H := Option.bind_eq_some_iff.mp H
 obtain ⟨⟨t127, t128, t129⟩, A20, H⟩ := H
 replace H : (if t129 = 0 then (stable_whole.j0 k t127 (t128 != (l0.length : Int))) else (stable_whole.j0 k t127 true)) = some (r1, r2, r3) := H
 have A2 := Aside0.mk A20
 clear A20
 have HC3 := Aside0.mk H
 clear H
 go_enter Try.func28, Try.ntmps28
 go_upto_region 2 with (first | ((with_reducible refine gate_callee (f := 35) rfl ?_); refine goesL_ (some 12) rfl rfl Try.func35 (by kernel_rfl) rfl #[.slice A0 l0.length c0] rfl (by (try simp only [List.map_toArray, List.map_cons, List.map_nil]); first | done | rfl | (simp only [List.length_drop, List.length_take]; rfl)) ?_; (with_reducible refine (codec_Unframe.calls k _ _ l0 t127 t128 t129 _ ?side1 ?side2 A2.out).mono ?_); (case side1 => exact zC HR0.out); (case side2 => exact HC0.out); rintro e w4 ⟨v130, rfl, ho0, hb⟩; refine ⟨_, rfl, ?_⟩; have n0_ := am (Kd.R_lower ho0 (below_size (zL HB.out))); have n1_ := am (below_step (zL HB.out) hb); clear HB; have HO131 := n0_; have HB := n1_; clear n0_ n1_; (try clear hb); (try clear hb2); (try clear hk); (try clear hi); (try clear ho0)))
 (try simp only [Act.put, List.setIfInBounds_toArray, List.set_cons_zero, List.set_cons_succ])
 go_cut [23] (fun v23 wc => ∃ (kq : Nat) (x23_2 : Bool), v23 = .bool x23_2 ∧ Aside0 (stable_whole.j0 kq t127 x23_2 = some (r1, r2, r3)) ∧ Aside0 (kq ≤ k) ∧ Aside0 (Kd.R (Kd.int .u8) 5 wc w.heap.size (fun _ => True) v130 t127) ∧ Aside0 (Below w.heap.size w wc))
 case first =>
  have H := HC3.out
  clear HC3
  by_cases c5 : t129 = 0
  ·rw [if_pos c5] at H
   have c5b0 : (t129 == 0) = true := beq_iff_eq.mpr c5
   have c5b1 : (t129 != 0) = false := bne_eq_false_iff_eq.mpr c5
   clear c5
   (first | rw [c5b0] | (simp only [i64_w, i32_w]; rw [c5b0]) | skip)
   have H' := Aside0.mk H
   clear H
   go_wp2
   go_meet
   case rel => exact ⟨_, ((t128 != (l0.length : Int))), (by first | rfl | (simp; done) | (simp [*]; done)), H', ⟨by first | omega | exact Nat.le_refl _⟩, ⟨by exact zR HO131.out⟩, ⟨zL HB.out⟩⟩
  ·rw [if_neg c5] at H
   have c5b0 : (t129 == 0) = false := beq_eq_false_iff_ne.mpr c5
   have c5b1 : (t129 != 0) = true := bne_iff_ne.mpr c5
   (first | rw [c5b0] | (simp only [i64_w, i32_w]; rw [c5b0]) | skip)
   have H' := Aside0.mk H
   clear H
   go_wp2
   go_meet
   case rel => exact ⟨_, (true), (by first | rfl | (simp; done) | (simp [*]; done)), H', ⟨by first | omega | exact Nat.le_refl _⟩, ⟨by exact zR HO131.out⟩, ⟨zL HB.out⟩⟩
 case rest =>
  clear HC3
  try clear c2
  try clear p2
  try clear c3
  try clear c5
  try clear c5b0
  try clear c5b1
  obtain ⟨kq, x23_2, rfl, HA, HJ2, HO_5, HB⟩ := hcut
  cases kq with
  | zero => exact absurd HA.out (by simp [stable_whole.j0])
  | succ kj2 =>
   have H := HA.out
   clear HA
   simp only [stable_whole.j0] at H
   by_cases c6 : x23_2 = true
   ·subst c6
    have H1 : (some (([] : List Int), 0, false)) = some (r1, r2, r3) := by rw [if_pos rfl] at H; exact H
    clear H
    have H := H1
    clear H1
    simp only [Option.some.injEq, Prod.mk.injEq] at H
    obtain ⟨rfl, rfl, rfl⟩ := H
    go_wp2
    go_ret3
    exact ⟨_, by first | rfl | (simp [errW_none, errW_some] <;> rfl) | (simp [*, errW_none, errW_some] <;> rfl), by first | exact Kd.R_nil _ _ _ _ _ | exact Kd.N_nil _ _ _ _ _ | exact Kd.V_nil _ _ _ _ _ | exact Kd.Q_nil _ _ _ _ _ | exact Kd.S_nil _ _ _ _ _, zL HB.out⟩
   ·replace c6 := Bool.eq_false_iff.mpr c6
    subst c6
    have H1 : ((codec_Uint.f kj2 t127).bind fun bt132 => (if bt132.2.2 = 0 then (if bt132.1 < 1 then (some (([] : List Int), 0, false)) else (if bt132.1 > 1073741824 then (some (([] : List Int), 0, false)) else (if (wrap64 ((t127.length : Int) - bt132.2.1)) > 512 then (some (([] : List Int), 0, false)) else (if 0 ≤ bt132.2.1 then (if bt132.2.1 ≤ (t127.length : Int) then ((slices_Clone_byte_byte.f (t127.drop (bt132.2.1 : Int).toNat)).bind fun t139 => (some (t139, wrap64 (bt132.1), true))) else (none)) else (none))))) else (some (([] : List Int), 0, false)))) = some (r1, r2, r3) := by rw [if_neg (show ¬ (false = true) by decide)] at H; exact H
    clear H
    have H := H1
    clear H1
    replace H := Option.bind_eq_some_iff.mp H
    obtain ⟨⟨t132, t133, t134⟩, A70, H⟩ := H
    replace H : (if t134 = 0 then (if t132 < 1 then (some (([] : List Int), 0, false)) else (if t132 > 1073741824 then (some (([] : List Int), 0, false)) else (if (wrap64 ((t127.length : Int) - t133)) > 512 then (some (([] : List Int), 0, false)) else (if 0 ≤ t133 then (if t133 ≤ (t127.length : Int) then ((slices_Clone_byte_byte.f (t127.drop (t133 : Int).toNat)).bind fun t139 => (some (t139, wrap64 (t132), true))) else (none)) else (none))))) else (some (([] : List Int), 0, false))) = some (r1, r2, r3) := H
    have A7 := Aside0.mk A70
    clear A70
    by_cases c8 : t134 = 0
    ·rw [if_pos c8] at H
     have c8b0 : (t134 == 0) = true := beq_iff_eq.mpr c8
     have c8b1 : (t134 != 0) = false := bne_eq_false_iff_eq.mpr c8
     clear c8
     by_cases c9 : t132 < 1
     ·rw [if_pos c9] at H
      have c9b0 : decide (t132 < 1) = true := decide_eq_true c9
      clear c9
      simp only [Option.some.injEq, Prod.mk.injEq] at H
      obtain ⟨rfl, rfl, rfl⟩ := H
      obtain ⟨Ao10, co10, eo10⟩ := Kd.R_slice HO_5.out
      subst eo10
      go_wp2_with (first | ((with_reducible refine gate_callee (f := 36) rfl ?_); refine goesL_ (some 26) rfl rfl Try.func36 (by kernel_rfl) rfl #[.slice Ao10 t127.length co10] rfl (by (try simp only [List.map_toArray, List.map_cons, List.map_nil]); first | done | rfl | (simp only [List.length_drop, List.length_take]; rfl)) ?_; (with_reducible refine (codec_Uint.calls kj2 _ _ t127 t132 t133 t134 _ ?side1 ?side2 A7.out).mono ?_); (case side1 => exact zC (Kd.R_reads' HO_5.out).2.2); (case side2 => exact (Kd.R_reads' HO_5.out).2.1); rintro e w' ⟨rfl, ⟨nd, rfl⟩⟩; refine ⟨_, rfl, ?_⟩))
      go_ret3
      exact ⟨_, by first | rfl | (simp [errW_none, errW_some] <;> rfl) | (simp [*, errW_none, errW_some] <;> rfl), by first | exact Kd.R_nil _ _ _ _ _ | exact Kd.N_nil _ _ _ _ _ | exact Kd.V_nil _ _ _ _ _ | exact Kd.Q_nil _ _ _ _ _ | exact Kd.S_nil _ _ _ _ _, zL HB.out⟩
     ·rw [if_neg c9] at H
      have c9b0 : decide (t132 < 1) = false := decide_eq_false c9
      clear c9
      by_cases c11 : t132 > 1073741824
      ·rw [if_pos c11] at H
       have c11b0 : decide (1073741824 < t132) = true := decide_eq_true c11
       clear c11
       simp only [Option.some.injEq, Prod.mk.injEq] at H
       obtain ⟨rfl, rfl, rfl⟩ := H
       obtain ⟨Ao12, co12, eo12⟩ := Kd.R_slice HO_5.out
       subst eo12
       go_wp2_with (first | ((with_reducible refine gate_callee (f := 36) rfl ?_); refine goesL_ (some 26) rfl rfl Try.func36 (by kernel_rfl) rfl #[.slice Ao12 t127.length co12] rfl (by (try simp only [List.map_toArray, List.map_cons, List.map_nil]); first | done | rfl | (simp only [List.length_drop, List.length_take]; rfl)) ?_; (with_reducible refine (codec_Uint.calls kj2 _ _ t127 t132 t133 t134 _ ?side1 ?side2 A7.out).mono ?_); (case side1 => exact zC (Kd.R_reads' HO_5.out).2.2); (case side2 => exact (Kd.R_reads' HO_5.out).2.1); rintro e w' ⟨rfl, ⟨nd, rfl⟩⟩; refine ⟨_, rfl, ?_⟩))
       go_ret3
       exact ⟨_, by first | rfl | (simp [errW_none, errW_some] <;> rfl) | (simp [*, errW_none, errW_some] <;> rfl), by first | exact Kd.R_nil _ _ _ _ _ | exact Kd.N_nil _ _ _ _ _ | exact Kd.V_nil _ _ _ _ _ | exact Kd.Q_nil _ _ _ _ _ | exact Kd.S_nil _ _ _ _ _, zL HB.out⟩
      ·rw [if_neg c11] at H
       have c11b0 : decide (1073741824 < t132) = false := decide_eq_false c11
       clear c11
       by_cases c13 : (wrap64 ((t127.length : Int) - t133)) > 512
       ·rw [if_pos c13] at H
        have c13b0 : decide (512 < (wrap64 ((t127.length : Int) - t133))) = true := decide_eq_true c13
        clear c13
        simp only [Option.some.injEq, Prod.mk.injEq] at H
        obtain ⟨rfl, rfl, rfl⟩ := H
        obtain ⟨Ao14, co14, eo14⟩ := Kd.R_slice HO_5.out
        subst eo14
        go_wp2_with (first | ((with_reducible refine gate_callee (f := 36) rfl ?_); refine goesL_ (some 26) rfl rfl Try.func36 (by kernel_rfl) rfl #[.slice Ao14 t127.length co14] rfl (by (try simp only [List.map_toArray, List.map_cons, List.map_nil]); first | done | rfl | (simp only [List.length_drop, List.length_take]; rfl)) ?_; (with_reducible refine (codec_Uint.calls kj2 _ _ t127 t132 t133 t134 _ ?side1 ?side2 A7.out).mono ?_); (case side1 => exact zC (Kd.R_reads' HO_5.out).2.2); (case side2 => exact (Kd.R_reads' HO_5.out).2.1); rintro e w' ⟨rfl, ⟨nd, rfl⟩⟩; refine ⟨_, rfl, ?_⟩))
        go_ret3
        exact ⟨_, by first | rfl | (simp [errW_none, errW_some] <;> rfl) | (simp [*, errW_none, errW_some] <;> rfl), by first | exact Kd.R_nil _ _ _ _ _ | exact Kd.N_nil _ _ _ _ _ | exact Kd.V_nil _ _ _ _ _ | exact Kd.Q_nil _ _ _ _ _ | exact Kd.S_nil _ _ _ _ _, zL HB.out⟩
       ·rw [if_neg c13] at H
        have c13b0 : decide (512 < (wrap64 ((t127.length : Int) - t133))) = false := decide_eq_false c13
        clear c13
        by_cases c15 : 0 ≤ t133
        ·rw [if_pos c15] at H
         have c15b0 := eq_true c15
         have c15b1 : decide (0 ≤ t133) = true := decide_eq_true c15
         clear c15
         by_cases c16 : t133 ≤ (t127.length : Int)
         ·rw [if_pos c16] at H
          have c16b0 := eq_true c16
          have c16b1 : decide (t133 ≤ (t127.length : Int)) = true := decide_eq_true c16
          clear c16
          obtain ⟨y135, hy135⟩ : ∃ y_ : List Int, y_ = (t127.drop (t133 : Int).toNat) := ⟨_, rfl⟩
          replace H : ((slices_Clone_byte_byte.f y135).bind fun t139 => (some (t139, wrap64 (t132), true))) = some (r1, r2, r3) := by first | (rw [hy135]; with_reducible exact H) | (have H2_ := (Option.bind_some _ _).symm.trans H; rw [hy135]; with_reducible exact H2_) | (have H2_ := (Option.bind_some _ _).symm.trans H; with_reducible exact H2_) | with_reducible exact H | (rw [hy135]; exact H) | exact H
          have Ny135 := Aside0.mk hy135
          clear hy135
          replace H := Option.bind_eq_some_iff.mp H
          obtain ⟨t139, A170, H⟩ := H
          replace H : (some (t139, wrap64 (t132), true)) = some (r1, r2, r3) := H
          have A17 := Aside0.mk A170
          clear A170
          simp only [Option.some.injEq, Prod.mk.injEq] at H
          obtain ⟨rfl, rfl, rfl⟩ := H
          obtain ⟨Ao18, co18, eo18⟩ := Kd.R_slice HO_5.out
          subst eo18
          go_wp2_with (first | ((with_reducible refine gate_callee (f := 36) rfl ?_); refine goesL_ (some 26) rfl rfl Try.func36 (by kernel_rfl) rfl #[.slice Ao18 t127.length co18] rfl (by (try simp only [List.map_toArray, List.map_cons, List.map_nil]); first | done | rfl | (simp only [List.length_drop, List.length_take]; rfl)) ?_; (with_reducible refine (codec_Uint.calls kj2 _ _ t127 t132 t133 t134 _ ?side1 ?side2 A7.out).mono ?_); (case side1 => exact zC (Kd.R_reads' HO_5.out).2.2); (case side2 => exact (Kd.R_reads' HO_5.out).2.1); rintro e w' ⟨rfl, ⟨nd, rfl⟩⟩; refine ⟨_, rfl, ?_⟩; have q19 : (t133 : Int) ≤ ((t127.length : Int) : Int) := of_decide_eq_true (by first | (with_reducible assumption) | assumption); obtain ⟨i019, hi019, _, hsz19, _⟩ := info_parts info5; have hroom19 : t127.length ≤ co18 := (Kd.R_reads' HO_5.out).2.1; have hC19 : Kd.C (Kd.int .u8) _ Ao18 t127.length t127 := (Kd.R_reads' HO_5.out).2.2; have q019 : (0 : Int) ≤ (t133 : Int) := of_decide_eq_true (by first | (with_reducible assumption) | assumption); have hcut19 := cut_from (P := Try.prog) 22 5 .i64 Try.underlying22 hi019 1 hsz19 Ao18 t127.length co18 t133 q019 q19; have hr19 := Kd.C_drop (m := (t133 : Int).toNat) (c := co18) hC19 (by omega) hroom19; obtain ⟨A19, hA19⟩ : ∃ A1, A1 = (if co18 = (t133 : Int).toNat then Ao18 else (Ao18 : Option Addr).map (·.add ((t133 : Int).toNat * 1))) := ⟨_, rfl⟩; obtain ⟨c19, hc19⟩ : ∃ c1, c1 = co18 - (t133 : Int).toNat := ⟨_, rfl⟩; have hy19 : y135.length = t127.length - (t133 : Int).toNat := (by rw [Ny135.out, List.length_drop] <;> omega); rw [show (t127).drop (t133 : Int).toNat = y135 from Ny135.out.symm] at hr19; replace hr19 : Kd.C (Kd.int .u8) _ A19 y135.length y135 := (by rw [hA19]; exact hr19); rw [← hy19, ← hA19, ← hc19] at hcut19; have HR138 := Aside0.mk hr19; have HC138 := am (show y135.length ≤ c19 from by rw [hy19, hc19]; exact Nat.sub_le_sub_right hroom19 _); clear hr19 hC19 hroom19 hi019 hsz19 hc19; have KY19 := Aside0.mk hy19; have KA19 := Aside0.mk hA19; clear hy19 hA19; have KL19 := am (show (t133 : Int).toNat ≤ t127.length from by omega); replace q19 := eq_true q19) | ((with_reducible refine gate_callee (f := 25) rfl ?_); refine goesL_ (some 50) rfl rfl Try.func25 (by kernel_rfl) rfl #[.slice A19 y135.length c19] rfl (by (try simp only [List.map_toArray, List.map_cons, List.map_nil]); first | done | rfl | (simp only [List.length_drop, List.length_take]; rfl)) ?_; (with_reducible refine (slices_Clone_byte_byte.calls _ _ y135 t139 _ ?side1 ?side2 A17.out).mono ?_); (case side1 => repeat (first | exact (by repeat (first | (with_reducible exact HR138.out) | (with_reducible refine Kd.C_alloc ?_ _) | (with_reducible refine Kd.C_drewN ?_ _) | (with_reducible refine Kd.C_drew ?_) | exact HR138.out)) | (with_reducible refine Kd.C_alloc ?_ _) | (with_reducible refine Kd.C_drewN ?_ _) | (with_reducible refine Kd.C_drew ?_))); (case side2 => exact HC138.out); rintro e w20 ⟨v140, rfl, ho0, hb⟩; refine ⟨_, rfl, ?_⟩; have n0_ := am (Kd.R_elder' (zR HO_5.out) (Kd.R_base ho0) hb); have n1_ := am (Kd.R_lower (Kd.R_new' ho0 (Kd.R_lt (zR HO_5.out))) (below_size (zL HB.out))); have n2_ := am (Kd.C_below (by repeat (first | (with_reducible exact HR138.out) | (with_reducible refine Kd.C_alloc ?_ _) | (with_reducible refine Kd.C_drewN ?_ _) | (with_reducible refine Kd.C_drew ?_) | exact HR138.out)) hb); have n3_ := am (below_step (zL HB.out) hb); clear HO_5 HR138 HB; have HO_5 := n0_; have HO141 := n1_; have HR138 := n2_; have HB := n3_; clear n0_ n1_ n2_ n3_; (try clear hb); (try clear hb2); (try clear hk); (try clear hi); (try clear ho0)))
          go_ret3
          exact ⟨_, by first | rfl | (simp [errW_none, errW_some] <;> rfl) | (simp [*, errW_none, errW_some] <;> rfl), by exact zR <| Kd.R_mono HO141.out (fun _ hk => trivial), zL HB.out⟩
         ·rw [if_neg c16] at H
          exact absurd H (by simp)
        ·rw [if_neg c15] at H
         exact absurd H (by simp)
    ·rw [if_neg c8] at H
     have c8b0 : (t134 == 0) = false := beq_eq_false_iff_ne.mpr c8
     have c8b1 : (t134 != 0) = true := bne_iff_ne.mpr c8
     simp only [Option.some.injEq, Prod.mk.injEq] at H
     obtain ⟨rfl, rfl, rfl⟩ := H
     obtain ⟨Ao21, co21, eo21⟩ := Kd.R_slice HO_5.out
     subst eo21
     go_wp2_with (first | ((with_reducible refine gate_callee (f := 36) rfl ?_); refine goesL_ (some 26) rfl rfl Try.func36 (by kernel_rfl) rfl #[.slice Ao21 t127.length co21] rfl (by (try simp only [List.map_toArray, List.map_cons, List.map_nil]); first | done | rfl | (simp only [List.length_drop, List.length_take]; rfl)) ?_; (with_reducible refine (codec_Uint.calls kj2 _ _ t127 t132 t133 t134 _ ?side1 ?side2 A7.out).mono ?_); (case side1 => exact zC (Kd.R_reads' HO_5.out).2.2); (case side2 => exact (Kd.R_reads' HO_5.out).2.1); rintro e w' ⟨rfl, ⟨nd, rfl⟩⟩; refine ⟨_, rfl, ?_⟩))
     go_ret3
     exact ⟨_, by first | rfl | (simp [errW_none, errW_some] <;> rfl) | (simp [*, errW_none, errW_some] <;> rfl), by first | exact Kd.R_nil _ _ _ _ _ | exact Kd.N_nil _ _ _ _ _ | exact Kd.V_nil _ _ _ _ _ | exact Kd.Q_nil _ _ _ _ _ | exact Kd.S_nil _ _ _ _ _, zL HB.out⟩

/-! ### stable_present: function 21 -/
def stable_present.f (k : Nat) (l0_0 l0_1 : List Int) : Option (List Int × Int × Int × Bool) := (stable_whole.f k l0_0).bind fun a => (stable_whole.f k l0_1).bind fun b => if (b.2.2 && (!a.2.2 || decide (b.2.1 > a.2.1))) = true then some (b.1, b.2.1, 1, b.2.2) else some (a.1, a.2.1, 0, a.2.2)
theorem stable_present.mono : ∀ a0 a1 k, LeO (stable_present.f k a0 a1) (stable_present.f (k + 1) a0 a1) := by
 intro a0 a1 k
 unfold stable_present.f
 refine LeO.bind (stable_whole.mono _ _) (fun _ => ?_)
 refine LeO.bind (stable_whole.mono _ _) (fun _ => LeO.refl _)
set_option maxHeartbeats 8000000 in
theorem stable_present.calls (k : Nat) (A0_0 : Option Addr) (c0_0 : Nat) (l0_0 : List Int) (A0_1 : Option Addr) (c0_1 : Nat) (l0_1 : List Int) (r1 : List Int) (r2 : Int) (r3 : Int) (r4 : Bool) (w : World) (hr0_0 : Kd.C (Kd.int .u8) w A0_0 l0_0.length l0_0) (hc0_0 : l0_0.length ≤ c0_0) (hr0_1 : Kd.C (Kd.int .u8) w A0_1 l0_1.length l0_1) (hc0_1 : l0_1.length ≤ c0_1) (h : stable_present.f k l0_0 l0_1 = some (r1, r2, r3, r4)) :
  Calls Try.prog 21 #[.agg #[.slice A0_0 l0_0.length c0_0, .slice A0_1 l0_1.length c0_1]] w fun e w' => ∃ v0_ : Value, e = .returned (.tuple #[v0_, .int .i64 r2, .int .i64 r3, .bool r4]) ∧ Kd.R (Kd.int .u8) 5 w' w.heap.size (fun _ => True) v0_ r1 ∧ Below w.heap.size w w' := by
 have hu24 := Try.underlying24
 have HR0 := Aside0.mk hr0_0
 have HR1 := Aside0.mk hr0_1
 have HC0 := Aside0.mk hc0_0
 have HC1 := Aside0.mk hc0_1
 clear hr0_0 hr0_1 hc0_0 hc0_1
 have HB := am (Below.refl w.heap.size w)
 unfold stable_present.f at h
 obtain ⟨⟨a1, a2, a3⟩, ha, h⟩ := Option.bind_eq_some_iff.mp h
 obtain ⟨⟨b1, b2, b3⟩, hb, h⟩ := Option.bind_eq_some_iff.mp h
 have HA := Aside0.mk ha
 have HBB := Aside0.mk hb
 have H := Aside0.mk h
 clear ha hb h
 go_enter Try.func21, Try.ntmps21
 go_wp2_with (first | ((with_reducible refine gate_dst (N := 1) rfl ?_); refine box_event ?hg (N := 1) ?hd (cs := #[.slice A0_0 l0_0.length c0_0, .slice A0_1 l0_1.length c0_1]) (t := 24) ?hr ?_; (case hd => rfl); (case hg => rfl); (case hr => first | (go_simp; done) | (go_simp; rfl)); intro g1 hg w_g1 hbox hb; have n0_ := am (below_step HB.out hb); have n1_ := Aside0.mk hbox; have n2_ := am (show w.heap.size ≤ g1 by rw [hg]; exact HB.out.size); clear HB; have HB := n0_; have BKg1 := n1_; have GEg1 := n2_; clear n0_ n1_ n2_ ; clear hb hbox hg; have hz1_0 : w_g1.cell? ⟨g1, 0, none⟩ = some (.slice A0_0 l0_0.length c0_0) := (blk_cell BKg1.out 0).trans rfl; have hz1_1 : w_g1.cell? ⟨g1, 1, none⟩ = some (.slice A0_1 l0_1.length c0_1) := (blk_cell BKg1.out 1).trans rfl) | ((with_reducible refine gate_dst (N := 6) rfl ?_); refine box_event ?hg (N := 6) ?hd (cs := #[.slice none 0 0, .slice none 0 0]) (t := 54) ?hr ?_; (case hd => rfl); (case hg => rfl); (case hr => first | (go_simp; done) | (go_simp; rfl)); intro g6 hg w_g6 hbox hb; have n0_ := am (below_step HB.out hb); have n1_ := Aside0.mk hbox; have n2_ := am (show w.heap.size ≤ g6 by rw [hg]; exact HB.out.size); have k0_ := am (blk_below BKg1.out hb); have l0_ := am (show g1 ≠ g6 by rw [hg]; exact Nat.ne_of_lt (blk_lt BKg1.out)); clear HB; have HB := n0_; have BKg6 := n1_; have GEg6 := n2_; clear BKg1; have BKg1 := k0_; have NEg1g6 := l0_; clear n0_ n1_ n2_ k0_ l0_; clear hb hbox hg; have hz6_0 : w_g6.cell? ⟨g6, 0, none⟩ = some (.slice none 0 0) := (blk_cell BKg6.out 0).trans rfl; have hf6_0 := blk_frozen BKg6.out 0; have hz6_1 : w_g6.cell? ⟨g6, 1, none⟩ = some (.slice none 0 0) := (blk_cell BKg6.out 1).trans rfl; have hf6_1 := blk_frozen BKg6.out 1) | ((with_reducible refine gate_store (t := 54) (p := 6) rfl ?_); refine store_event (t := 54) (p := 6) (v := ?vo_w4) (w1 := ((w_g6.setCell ⟨g6, 0, none⟩ (.slice A0_0 l0_0.length c0_0)).setCell ⟨g6, 1, none⟩ (.slice A0_1 l0_1.length c0_1))) ?hg ?ho ?hn ?hr ?_; (case ho => rfl); (case hg => rfl); (case hn => rfl); (case hr => first | (go_simp; done) | (go_simp; rfl)); intro w4 hw; have n0_ := am (show w4.heap[g6]? = some (.cells #[.slice A0_0 l0_0.length c0_0, .slice A0_1 l0_1.length c0_1] 54 (0, 0)) by rw [hw]; exact (blk_set (blk_set BKg6.out 0 _) 1 _)); have n1_ := am (show Below w.heap.size w w4 by rw [hw]; exact (Below.setCell (Below.setCell HB.out GEg6.out _) GEg6.out _)); clear BKg6 HB BKg1 hw hz6_0 hf6_0 hz6_1 hf6_1; have BKg6 := n0_; have HB := n1_; clear n0_ n1_) | ((with_reducible refine gate_dst (N := 7) rfl ?_); refine box_event ?hg (N := 7) ?hd (cs := #[.slice none 0 0, .slice none 0 0]) (t := 54) ?hr ?_; (case hd => rfl); (case hg => rfl); (case hr => first | (go_simp; done) | (go_simp; rfl)); intro g7 hg w_g7 hbox hb; have n0_ := am (below_step HB.out hb); have n1_ := Aside0.mk hbox; have n2_ := am (show w.heap.size ≤ g7 by rw [hg]; exact HB.out.size); have k0_ := am (blk_below BKg6.out hb); have l0_ := am (show g6 ≠ g7 by rw [hg]; exact Nat.ne_of_lt (blk_lt BKg6.out)); clear HB; have HB := n0_; have BKg7 := n1_; have GEg7 := n2_; clear BKg6; have BKg6 := k0_; have NEg6g7 := l0_; clear n0_ n1_ n2_ k0_ l0_; clear hb hbox hg) | ((with_reducible refine gate_dst (N := 8) rfl ?_); refine box_event ?hg (N := 8) ?hd (cs := #[.int .i64 0, .int .i64 0]) (t := 58) ?hr ?_; (case hd => rfl); (case hg => rfl); (case hr => first | (go_simp; done) | (go_simp; rfl)); intro g8 hg w_g8 hbox hb; have n0_ := am (below_step HB.out hb); have n1_ := Aside0.mk hbox; have n2_ := am (show w.heap.size ≤ g8 by rw [hg]; exact HB.out.size); have k0_ := am (blk_below BKg6.out hb); have k1_ := am (blk_below BKg7.out hb); have l0_ := am (show g6 ≠ g8 by rw [hg]; exact Nat.ne_of_lt (blk_lt BKg6.out)); have l1_ := am (show g7 ≠ g8 by rw [hg]; exact Nat.ne_of_lt (blk_lt BKg7.out)); clear HB; have HB := n0_; have BKg8 := n1_; have GEg8 := n2_; clear BKg6; have BKg6 := k0_; clear BKg7; have BKg7 := k1_; have NEg6g8 := l0_; have NEg7g8 := l1_; clear n0_ n1_ n2_ k0_ l0_ k1_ l1_; clear hb hbox hg) | ((with_reducible refine gate_dst (N := 9) rfl ?_); refine box_event ?hg (N := 9) ?hd (cs := #[.bool false, .bool false]) (t := 59) ?hr ?_; (case hd => rfl); (case hg => rfl); (case hr => first | (go_simp; done) | (go_simp; rfl)); intro g9 hg w_g9 hbox hb; have n0_ := am (below_step HB.out hb); have n1_ := Aside0.mk hbox; have n2_ := am (show w.heap.size ≤ g9 by rw [hg]; exact HB.out.size); have k0_ := am (blk_below BKg6.out hb); have k1_ := am (blk_below BKg7.out hb); have k2_ := am (blk_below BKg8.out hb); have l0_ := am (show g6 ≠ g9 by rw [hg]; exact Nat.ne_of_lt (blk_lt BKg6.out)); have l1_ := am (show g7 ≠ g9 by rw [hg]; exact Nat.ne_of_lt (blk_lt BKg7.out)); have l2_ := am (show g8 ≠ g9 by rw [hg]; exact Nat.ne_of_lt (blk_lt BKg8.out)); clear HB; have HB := n0_; have BKg9 := n1_; have GEg9 := n2_; clear BKg6; have BKg6 := k0_; clear BKg7; have BKg7 := k1_; clear BKg8; have BKg8 := k2_; have NEg6g9 := l0_; have NEg7g9 := l1_; have NEg8g9 := l2_; clear n0_ n1_ n2_ k0_ l0_ k1_ l1_ k2_ l2_; clear hb hbox hg; have h6_0 : w_g9.cell? ⟨g6, 0, none⟩ = some (.slice A0_0 l0_0.length c0_0) := (blk_cell BKg6.out 0).trans rfl; have h6_1 : w_g9.cell? ⟨g6, 1, none⟩ = some (.slice A0_1 l0_1.length c0_1) := (blk_cell BKg6.out 1).trans rfl))
 clear h6_0 h6_1
 have hi0 : ∀ w, (Instr.index 54 (.agg #[.slice A0_0 l0_0.length c0_0, .slice A0_1 l0_1.length c0_1]) (.int .i64 0)).run Try.prog w = .ok (.slice A0_0 l0_0.length c0_0) w := fun w => by simp [Instr.index, run_underlying Try.underlying54]; try rfl
 have hi1 : ∀ w, (Instr.index 54 (.agg #[.slice A0_0 l0_0.length c0_0, .slice A0_1 l0_1.length c0_1]) (.int .i64 1)).run Try.prog w = .ok (.slice A0_1 l0_1.length c0_1) w := fun w => by simp [Instr.index, run_underlying Try.underlying54]; try rfl
 refine wp_loop_rounds 3 ?_
 rw [rounds_succ]
 go_wp2_with (first | ((with_reducible refine gate_callee (f := 28) rfl ?_); refine goesL_ (some 28) rfl rfl Try.func28 (by kernel_rfl) rfl #[.slice A0_0 l0_0.length c0_0] rfl (by (try simp only [List.map_toArray, List.map_cons, List.map_nil]); first | done | rfl) ?_; (with_reducible refine (stable_whole.calls k A0_0 c0_0 l0_0 a1 a2 a3 _ (Kd.C_below HR0.out HB.out) HC0.out HA.out).mono ?_); rintro e wA0 ⟨vv, rfl, hRA, hb⟩; obtain ⟨Ar0, cr0, rfl⟩ := Kd.R_slice hRA; refine ⟨_, rfl, ?_⟩; have HO0 := am (Xw.R_from hRA); have KP0 := am (Xw.Kp.refl w_g9.heap.size wA0); have BS0 := Aside0.mk HB.out.size; have n0_ := am (below_step HB.out hb); have l70 := am (blk_lt BKg7.out); have l80 := am (blk_lt BKg8.out); have l90 := am (blk_lt BKg9.out); have k7_ := am (blk_below BKg7.out hb); have k8_ := am (blk_below BKg8.out hb); have k9_ := am (blk_below BKg9.out hb); clear HB BKg7 BKg8 BKg9 hb hRA; have HB := n0_; have BKg7 := k7_; have BKg8 := k8_; have BKg9 := k9_; clear n0_ k7_ k8_ k9_; have c7_ : wA0.cell? ⟨g7, 0, none⟩ = some (.slice none 0 0) := (blk_cell BKg7.out 0).trans rfl; have f7_ := blk_frozen BKg7.out 0; have c8_ : wA0.cell? ⟨g8, 0, none⟩ = some (.int .i64 0) := (blk_cell BKg8.out 0).trans rfl; have f8_ := blk_frozen BKg8.out 0; have c9_ : wA0.cell? ⟨g9, 0, none⟩ = some (.bool false) := (blk_cell BKg9.out 0).trans rfl; have f9_ := blk_frozen BKg9.out 0) | ((with_reducible refine gate_store (t := 22) (p := 32) rfl ?_); refine store_event (t := 22) (p := 32) (v := ?vo_wB0) (w1 := wA0.setCell ⟨g7, 0, none⟩ ((.slice Ar0 a1.length cr0))) ?hg ?ho ?hn ?hr ?_; (case ho => rfl); (case hg => rfl); (case hn => rfl); (case hr => first | (go_simp; done) | (go_simp; rfl)); intro wB0 hw; have n1_ := am (show wB0.heap[g7]? = some (.cells #[(.slice Ar0 a1.length cr0), .slice none 0 0] 54 (0, 0)) by rw [hw]; exact blk_set BKg7.out 0 _); have n2_ := am (show wB0.heap[g8]? = some (.cells #[.int .i64 0, .int .i64 0] 58 (0, 0)) by rw [hw]; exact blk_far BKg8.out (p := ⟨g7, 0, none⟩) (fun e => NEg7g8.out e.symm) _); have n3_ := am (show wB0.heap[g9]? = some (.cells #[.bool false, .bool false] 59 (0, 0)) by rw [hw]; exact blk_far BKg9.out (p := ⟨g7, 0, none⟩) (fun e => NEg7g9.out e.symm) _); have n4_ := am (show Below w.heap.size w wB0 by rw [hw]; exact below_set HB.out GEg7.out); have m0_ := am (show Xw.Kp _ _ wB0 by rw [hw]; exact KP0.out.set l70.out _); clear BKg7 BKg8 BKg9 HB hw KP0; (try clear c7_); (try clear c8_); (try clear c9_); (try clear f7_); (try clear f8_); (try clear f9_); have BKg7 := n1_; have BKg8 := n2_; have BKg9 := n3_; have HB := n4_; clear n1_ n2_ n3_ n4_; have KP0 := m0_; clear m0_; have c7_ : wB0.cell? ⟨g7, 0, none⟩ = some ((.slice Ar0 a1.length cr0)) := (blk_cell BKg7.out 0).trans rfl; have f7_ := blk_frozen BKg7.out 0; have c8_ : wB0.cell? ⟨g8, 0, none⟩ = some (.int .i64 0) := (blk_cell BKg8.out 0).trans rfl; have f8_ := blk_frozen BKg8.out 0; have c9_ : wB0.cell? ⟨g9, 0, none⟩ = some (.bool false) := (blk_cell BKg9.out 0).trans rfl; have f9_ := blk_frozen BKg9.out 0) | ((with_reducible refine gate_store (t := 3) (p := 33) rfl ?_); refine store_event (t := 3) (p := 33) (v := ?vo_wC0) (w1 := wB0.setCell ⟨g8, 0, none⟩ (.int .i64 a2)) ?hg ?ho ?hn ?hr ?_; (case ho => rfl); (case hg => rfl); (case hn => rfl); (case hr => first | (go_simp; done) | (go_simp; rfl)); intro wC0 hw; have n1_ := am (show wC0.heap[g8]? = some (.cells #[.int .i64 a2, .int .i64 0] 58 (0, 0)) by rw [hw]; exact blk_set BKg8.out 0 _); have n2_ := am (show wC0.heap[g7]? = some (.cells #[(.slice Ar0 a1.length cr0), .slice none 0 0] 54 (0, 0)) by rw [hw]; exact blk_far BKg7.out (p := ⟨g8, 0, none⟩) (fun e => NEg7g8.out e) _); have n3_ := am (show wC0.heap[g9]? = some (.cells #[.bool false, .bool false] 59 (0, 0)) by rw [hw]; exact blk_far BKg9.out (p := ⟨g8, 0, none⟩) (fun e => NEg8g9.out e.symm) _); have n4_ := am (show Below w.heap.size w wC0 by rw [hw]; exact below_set HB.out GEg8.out); have m0_ := am (show Xw.Kp _ _ wC0 by rw [hw]; exact KP0.out.set l80.out _); clear BKg7 BKg8 BKg9 HB hw KP0; (try clear c7_); (try clear c8_); (try clear c9_); (try clear f7_); (try clear f8_); (try clear f9_); have BKg8 := n1_; have BKg7 := n2_; have BKg9 := n3_; have HB := n4_; clear n1_ n2_ n3_ n4_; have KP0 := m0_; clear m0_; have c7_ : wC0.cell? ⟨g7, 0, none⟩ = some ((.slice Ar0 a1.length cr0)) := (blk_cell BKg7.out 0).trans rfl; have f7_ := blk_frozen BKg7.out 0; have c8_ : wC0.cell? ⟨g8, 0, none⟩ = some (.int .i64 a2) := (blk_cell BKg8.out 0).trans rfl; have f8_ := blk_frozen BKg8.out 0; have c9_ : wC0.cell? ⟨g9, 0, none⟩ = some (.bool false) := (blk_cell BKg9.out 0).trans rfl; have f9_ := blk_frozen BKg9.out 0) | ((with_reducible refine gate_store (t := 4) (p := 34) rfl ?_); refine store_event (t := 4) (p := 34) (v := ?vo_wD0) (w1 := wC0.setCell ⟨g9, 0, none⟩ (.bool a3)) ?hg ?ho ?hn ?hr ?_; (case ho => rfl); (case hg => rfl); (case hn => rfl); (case hr => first | (go_simp; done) | (go_simp; rfl)); intro wD0 hw; have n1_ := am (show wD0.heap[g9]? = some (.cells #[.bool a3, .bool false] 59 (0, 0)) by rw [hw]; exact blk_set BKg9.out 0 _); have n2_ := am (show wD0.heap[g7]? = some (.cells #[(.slice Ar0 a1.length cr0), .slice none 0 0] 54 (0, 0)) by rw [hw]; exact blk_far BKg7.out (p := ⟨g9, 0, none⟩) (fun e => NEg7g9.out e) _); have n3_ := am (show wD0.heap[g8]? = some (.cells #[.int .i64 a2, .int .i64 0] 58 (0, 0)) by rw [hw]; exact blk_far BKg8.out (p := ⟨g9, 0, none⟩) (fun e => NEg8g9.out e) _); have n4_ := am (show Below w.heap.size w wD0 by rw [hw]; exact below_set HB.out GEg9.out); have m0_ := am (show Xw.Kp _ _ wD0 by rw [hw]; exact KP0.out.set l90.out _); clear BKg7 BKg8 BKg9 HB hw KP0; (try clear c7_); (try clear c8_); (try clear c9_); (try clear f7_); (try clear f8_); (try clear f9_); have BKg9 := n1_; have BKg7 := n2_; have BKg8 := n3_; have HB := n4_; clear n1_ n2_ n3_ n4_; have KP0 := m0_; clear m0_; have c7_ : wD0.cell? ⟨g7, 0, none⟩ = some ((.slice Ar0 a1.length cr0)) := (blk_cell BKg7.out 0).trans rfl; have f7_ := blk_frozen BKg7.out 0; have c8_ : wD0.cell? ⟨g8, 0, none⟩ = some (.int .i64 a2) := (blk_cell BKg8.out 0).trans rfl; have f8_ := blk_frozen BKg8.out 0; have c9_ : wD0.cell? ⟨g9, 0, none⟩ = some (.bool a3) := (blk_cell BKg9.out 0).trans rfl; have f9_ := blk_frozen BKg9.out 0))
 (try clear c7_ c8_ c9_ f7_ f8_ f9_)
 rw [rounds_succ]
 go_wp2_with (first | ((with_reducible refine gate_callee (f := 28) rfl ?_); refine goesL_ (some 28) rfl rfl Try.func28 (by kernel_rfl) rfl #[.slice A0_1 l0_1.length c0_1] rfl (by (try simp only [List.map_toArray, List.map_cons, List.map_nil]); first | done | rfl) ?_; (with_reducible refine (stable_whole.calls k A0_1 c0_1 l0_1 b1 b2 b3 _ (Kd.C_below HR1.out HB.out) HC1.out HBB.out).mono ?_); rintro e wA1 ⟨vv, rfl, hRA, hb⟩; obtain ⟨Ar1, cr1, rfl⟩ := Kd.R_slice hRA; refine ⟨_, rfl, ?_⟩; have HO1 := am (Xw.R_from hRA); have KP1 := am (Xw.Kp.refl wD0.heap.size wA1); have BS1 := Aside0.mk HB.out.size; have n0_ := am (below_step HB.out hb); have l71 := am (blk_lt BKg7.out); have l81 := am (blk_lt BKg8.out); have l91 := am (blk_lt BKg9.out); have m0_ := am (KP0.out.below hb); clear KP0; have KP0 := m0_; clear m0_; have k7_ := am (blk_below BKg7.out hb); have k8_ := am (blk_below BKg8.out hb); have k9_ := am (blk_below BKg9.out hb); clear HB BKg7 BKg8 BKg9 hb hRA; have HB := n0_; have BKg7 := k7_; have BKg8 := k8_; have BKg9 := k9_; clear n0_ k7_ k8_ k9_; have c7_ : wA1.cell? ⟨g7, 1, none⟩ = some (.slice none 0 0) := (blk_cell BKg7.out 1).trans rfl; have f7_ := blk_frozen BKg7.out 1; have c8_ : wA1.cell? ⟨g8, 1, none⟩ = some (.int .i64 0) := (blk_cell BKg8.out 1).trans rfl; have f8_ := blk_frozen BKg8.out 1; have c9_ : wA1.cell? ⟨g9, 1, none⟩ = some (.bool false) := (blk_cell BKg9.out 1).trans rfl; have f9_ := blk_frozen BKg9.out 1) | ((with_reducible refine gate_store (t := 22) (p := 32) rfl ?_); refine store_event (t := 22) (p := 32) (v := ?vo_wB1) (w1 := wA1.setCell ⟨g7, 1, none⟩ ((.slice Ar1 b1.length cr1))) ?hg ?ho ?hn ?hr ?_; (case ho => rfl); (case hg => rfl); (case hn => rfl); (case hr => first | (go_simp; done) | (go_simp; rfl)); intro wB1 hw; have n1_ := am (show wB1.heap[g7]? = some (.cells #[(.slice Ar0 a1.length cr0), (.slice Ar1 b1.length cr1)] 54 (0, 0)) by rw [hw]; exact blk_set BKg7.out 1 _); have n2_ := am (show wB1.heap[g8]? = some (.cells #[.int .i64 a2, .int .i64 0] 58 (0, 0)) by rw [hw]; exact blk_far BKg8.out (p := ⟨g7, 1, none⟩) (fun e => NEg7g8.out e.symm) _); have n3_ := am (show wB1.heap[g9]? = some (.cells #[.bool a3, .bool false] 59 (0, 0)) by rw [hw]; exact blk_far BKg9.out (p := ⟨g7, 1, none⟩) (fun e => NEg7g9.out e.symm) _); have n4_ := am (show Below w.heap.size w wB1 by rw [hw]; exact below_set HB.out GEg7.out); have m0_ := am (show Xw.Kp _ _ wB1 by rw [hw]; exact KP0.out.set l70.out _); have m1_ := am (show Xw.Kp _ _ wB1 by rw [hw]; exact KP1.out.set l71.out _); clear BKg7 BKg8 BKg9 HB hw KP0 KP1; (try clear c7_); (try clear c8_); (try clear c9_); (try clear f7_); (try clear f8_); (try clear f9_); have BKg7 := n1_; have BKg8 := n2_; have BKg9 := n3_; have HB := n4_; clear n1_ n2_ n3_ n4_; have KP0 := m0_; clear m0_; have KP1 := m1_; clear m1_; have c7_ : wB1.cell? ⟨g7, 1, none⟩ = some ((.slice Ar1 b1.length cr1)) := (blk_cell BKg7.out 1).trans rfl; have f7_ := blk_frozen BKg7.out 1; have c8_ : wB1.cell? ⟨g8, 1, none⟩ = some (.int .i64 0) := (blk_cell BKg8.out 1).trans rfl; have f8_ := blk_frozen BKg8.out 1; have c9_ : wB1.cell? ⟨g9, 1, none⟩ = some (.bool false) := (blk_cell BKg9.out 1).trans rfl; have f9_ := blk_frozen BKg9.out 1) | ((with_reducible refine gate_store (t := 3) (p := 33) rfl ?_); refine store_event (t := 3) (p := 33) (v := ?vo_wC1) (w1 := wB1.setCell ⟨g8, 1, none⟩ (.int .i64 b2)) ?hg ?ho ?hn ?hr ?_; (case ho => rfl); (case hg => rfl); (case hn => rfl); (case hr => first | (go_simp; done) | (go_simp; rfl)); intro wC1 hw; have n1_ := am (show wC1.heap[g8]? = some (.cells #[.int .i64 a2, .int .i64 b2] 58 (0, 0)) by rw [hw]; exact blk_set BKg8.out 1 _); have n2_ := am (show wC1.heap[g7]? = some (.cells #[(.slice Ar0 a1.length cr0), (.slice Ar1 b1.length cr1)] 54 (0, 0)) by rw [hw]; exact blk_far BKg7.out (p := ⟨g8, 1, none⟩) (fun e => NEg7g8.out e) _); have n3_ := am (show wC1.heap[g9]? = some (.cells #[.bool a3, .bool false] 59 (0, 0)) by rw [hw]; exact blk_far BKg9.out (p := ⟨g8, 1, none⟩) (fun e => NEg8g9.out e.symm) _); have n4_ := am (show Below w.heap.size w wC1 by rw [hw]; exact below_set HB.out GEg8.out); have m0_ := am (show Xw.Kp _ _ wC1 by rw [hw]; exact KP0.out.set l80.out _); have m1_ := am (show Xw.Kp _ _ wC1 by rw [hw]; exact KP1.out.set l81.out _); clear BKg7 BKg8 BKg9 HB hw KP0 KP1; (try clear c7_); (try clear c8_); (try clear c9_); (try clear f7_); (try clear f8_); (try clear f9_); have BKg8 := n1_; have BKg7 := n2_; have BKg9 := n3_; have HB := n4_; clear n1_ n2_ n3_ n4_; have KP0 := m0_; clear m0_; have KP1 := m1_; clear m1_; have c7_ : wC1.cell? ⟨g7, 1, none⟩ = some ((.slice Ar1 b1.length cr1)) := (blk_cell BKg7.out 1).trans rfl; have f7_ := blk_frozen BKg7.out 1; have c8_ : wC1.cell? ⟨g8, 1, none⟩ = some (.int .i64 b2) := (blk_cell BKg8.out 1).trans rfl; have f8_ := blk_frozen BKg8.out 1; have c9_ : wC1.cell? ⟨g9, 1, none⟩ = some (.bool false) := (blk_cell BKg9.out 1).trans rfl; have f9_ := blk_frozen BKg9.out 1) | ((with_reducible refine gate_store (t := 4) (p := 34) rfl ?_); refine store_event (t := 4) (p := 34) (v := ?vo_wD1) (w1 := wC1.setCell ⟨g9, 1, none⟩ (.bool b3)) ?hg ?ho ?hn ?hr ?_; (case ho => rfl); (case hg => rfl); (case hn => rfl); (case hr => first | (go_simp; done) | (go_simp; rfl)); intro wD1 hw; have n1_ := am (show wD1.heap[g9]? = some (.cells #[.bool a3, .bool b3] 59 (0, 0)) by rw [hw]; exact blk_set BKg9.out 1 _); have n2_ := am (show wD1.heap[g7]? = some (.cells #[(.slice Ar0 a1.length cr0), (.slice Ar1 b1.length cr1)] 54 (0, 0)) by rw [hw]; exact blk_far BKg7.out (p := ⟨g9, 1, none⟩) (fun e => NEg7g9.out e) _); have n3_ := am (show wD1.heap[g8]? = some (.cells #[.int .i64 a2, .int .i64 b2] 58 (0, 0)) by rw [hw]; exact blk_far BKg8.out (p := ⟨g9, 1, none⟩) (fun e => NEg8g9.out e) _); have n4_ := am (show Below w.heap.size w wD1 by rw [hw]; exact below_set HB.out GEg9.out); have m0_ := am (show Xw.Kp _ _ wD1 by rw [hw]; exact KP0.out.set l90.out _); have m1_ := am (show Xw.Kp _ _ wD1 by rw [hw]; exact KP1.out.set l91.out _); clear BKg7 BKg8 BKg9 HB hw KP0 KP1; (try clear c7_); (try clear c8_); (try clear c9_); (try clear f7_); (try clear f8_); (try clear f9_); have BKg9 := n1_; have BKg7 := n2_; have BKg8 := n3_; have HB := n4_; clear n1_ n2_ n3_ n4_; have KP0 := m0_; clear m0_; have KP1 := m1_; clear m1_; have c7_ : wD1.cell? ⟨g7, 1, none⟩ = some ((.slice Ar1 b1.length cr1)) := (blk_cell BKg7.out 1).trans rfl; have f7_ := blk_frozen BKg7.out 1; have c8_ : wD1.cell? ⟨g8, 1, none⟩ = some (.int .i64 b2) := (blk_cell BKg8.out 1).trans rfl; have f8_ := blk_frozen BKg8.out 1; have c9_ : wD1.cell? ⟨g9, 1, none⟩ = some (.bool b3) := (blk_cell BKg9.out 1).trans rfl; have f9_ := blk_frozen BKg9.out 1))
 (try clear c7_ c8_ c9_ f7_ f8_ f9_)
 rw [rounds_succ]
 have HH := H.out
 have d80 : wD1.cell? ⟨g8, 0, none⟩ = some (.int .i64 a2) := (blk_cell BKg8.out 0).trans rfl
 have d81 : wD1.cell? ⟨g8, 1, none⟩ = some (.int .i64 b2) := (blk_cell BKg8.out 1).trans rfl
 have d90 : wD1.cell? ⟨g9, 0, none⟩ = some (.bool a3) := (blk_cell BKg9.out 0).trans rfl
 have d91 : wD1.cell? ⟨g9, 1, none⟩ = some (.bool b3) := (blk_cell BKg9.out 1).trans rfl
 cases b3 with
 | false =>
  simp only [Bool.false_and, Bool.false_eq_true, if_false, Option.some.injEq, Prod.mk.injEq] at HH
  obtain ⟨rfl, rfl, rfl, rfl⟩ := HH
  clear H
  go_wp2
  have x7 : wD1.cell? ⟨g7, 0, none⟩ = some ((.slice Ar0 a1.length cr0)) := (blk_cell BKg7.out 0).trans rfl
  clear BKg7 BKg8 BKg9
  repeat (go_quiet (fail); try go_wp2)
  ((try simp only [Exit.inBlock, Exit.then]); refine bodyPost_ret (Xw.results_tmp4 rfl _ _ _) rfl ?_)
  exact ⟨_, by first | rfl | (simp; done) | (simp; rfl), (by exact zR <| Kd.R_mono (Kd.R_lower (KP0.out.R HO0.out) (by have := BS0.out; omega)) (fun _ _ => trivial)), zL HB.out⟩
 | true =>
  cases a3 with
  | false =>
   simp only [Bool.true_and, Bool.not_false, Bool.true_or, if_true, Option.some.injEq, Prod.mk.injEq] at HH
   obtain ⟨rfl, rfl, rfl, rfl⟩ := HH
   clear H
   go_wp2
   have x7 : wD1.cell? ⟨g7, 1, none⟩ = some ((.slice Ar1 b1.length cr1)) := (blk_cell BKg7.out 1).trans rfl
   clear BKg7 BKg8 BKg9
   repeat (go_quiet (fail); try go_wp2)
   ((try simp only [Exit.inBlock, Exit.then]); refine bodyPost_ret (Xw.results_tmp4 rfl _ _ _) rfl ?_)
   exact ⟨_, by first | rfl | (simp; done) | (simp; rfl), (by exact zR <| Kd.R_mono (Kd.R_lower (KP1.out.R HO1.out) (by have := BS1.out; omega)) (fun _ _ => trivial)), zL HB.out⟩
  | true =>
   by_cases hc : b2 > a2
   ·have hcb : decide (b2 > a2) = true := decide_eq_true hc
    simp only [Bool.true_and, Bool.not_true, Bool.false_or, hcb, if_true, Option.some.injEq, Prod.mk.injEq] at HH
    obtain ⟨rfl, rfl, rfl, rfl⟩ := HH
    clear H
    go_wp2
    have x7 : wD1.cell? ⟨g7, 1, none⟩ = some ((.slice Ar1 b1.length cr1)) := (blk_cell BKg7.out 1).trans rfl
    clear BKg7 BKg8 BKg9
    repeat (go_quiet (fail); try go_wp2)
    ((try simp only [Exit.inBlock, Exit.then]); refine bodyPost_ret (Xw.results_tmp4 rfl _ _ _) rfl ?_)
    exact ⟨_, by first | rfl | (simp; done) | (simp; rfl), (by exact zR <| Kd.R_mono (Kd.R_lower (KP1.out.R HO1.out) (by have := BS1.out; omega)) (fun _ _ => trivial)), zL HB.out⟩
   ·have hcb : decide (b2 > a2) = false := decide_eq_false hc
    simp only [Bool.true_and, Bool.not_true, Bool.false_or, hcb, Bool.false_eq_true, if_false, Option.some.injEq, Prod.mk.injEq] at HH
    obtain ⟨rfl, rfl, rfl, rfl⟩ := HH
    clear H
    go_wp2
    have x7 : wD1.cell? ⟨g7, 0, none⟩ = some ((.slice Ar0 a1.length cr0)) := (blk_cell BKg7.out 0).trans rfl
    clear BKg7 BKg8 BKg9
    repeat (go_quiet (fail); try go_wp2)
    ((try simp only [Exit.inBlock, Exit.then]); refine bodyPost_ret (Xw.results_tmp4 rfl _ _ _) rfl ?_)
    exact ⟨_, by first | rfl | (simp; done) | (simp; rfl), (by exact zR <| Kd.R_mono (Kd.R_lower (KP0.out.R HO0.out) (by have := BS0.out; omega)) (fun _ _ => trivial)), zL HB.out⟩


/-! ### stable_Read: function 8 -/
def stable_Read.f (k : Nat) (l0_0 : List Int) (l0_1 : List Int) : Option (List Int × Int × Int) := (stable_present.f k l0_0 l0_1).bind fun bt143 => (if bt143.2.2.2 = true then (some (bt143.1, bt143.2.1, 0)) else (some (([] : List Int), 0, 10)))
theorem stable_Read.mono : ∀ a0 a1 k, LeO (stable_Read.f k a0 a1) (stable_Read.f (k + 1) a0 a1) := by
 intro a0 a1 k
 unfold stable_Read.f
 repeat' first
   | (with_reducible exact stable_present.mono _ _ _)
   | (with_reducible exact LeO.refl _)
   | (with_reducible exact LeO.none _)
   | (with_reducible refine LeO.ite ?_ ?_)
   | (with_reducible refine LeO.bind ?_ (fun _ => ?_))
   | exact stable_present.mono _ _ _
   | exact LeO.none _
   | refine LeO.ite ?_ ?_
   | refine LeO.bind ?_ (fun _ => ?_)
set_option maxHeartbeats 8000000 in
set_option maxRecDepth 100000 in
theorem stable_Read.calls (k : Nat) (A0_0 : Option Addr) (c0_0 : Nat) (l0_0 : List Int) (A0_1 : Option Addr) (c0_1 : Nat) (l0_1 : List Int) (r1 : List Int) (r2 : Int) (r3 : Int) (w : World) (hr0_0 : Kd.C (Kd.int .u8) w A0_0 l0_0.length l0_0) (hc0_0 : l0_0.length ≤ c0_0) (hr0_1 : Kd.C (Kd.int .u8) w A0_1 l0_1.length l0_1) (hc0_1 : l0_1.length ≤ c0_1) (h : stable_Read.f k l0_0 l0_1 = some (r1, r2, r3)) :
  Calls Try.prog 8 #[.agg #[.slice A0_0 l0_0.length c0_0, .slice A0_1 l0_1.length c0_1]] w fun e w' => ∃ v0_ : Value, e = .returned (.tuple #[v0_, .int .i64 r2, .int .i64 r3]) ∧ Kd.R (Kd.int .u8) 5 w' w.heap.size (fun _ => True) v0_ r1 ∧ Below w.heap.size w w' := by
 have hu24 := Try.underlying24
 have HR0_0 := Aside0.mk hr0_0
 have HC0_0 := Aside0.mk hc0_0
 clear hr0_0 hc0_0
 have HR0_1 := Aside0.mk hr0_1
 have HC0_1 := Aside0.mk hc0_1
 clear hr0_1 hc0_1
 have HB := am (Below.refl w.heap.size w)
 have H : ((stable_present.f k l0_0 l0_1).bind fun bt143 => (if bt143.2.2.2 = true then (some (bt143.1, bt143.2.1, 0)) else (some (([] : List Int), 0, 10)))) = some (r1, r2, r3) := h
 clear h
 replace H := Option.bind_eq_some_iff.mp H
 obtain ⟨⟨t143, t146, t147, t148⟩, A20, H⟩ := H
 replace H : (if t148 = true then (some (t143, t146, 0)) else (some (([] : List Int), 0, 10))) = some (r1, r2, r3) := H
 have A2 := Aside0.mk A20
 clear A20
 by_cases c3 : t148 = true
 ·subst c3
  have H1 : (some (t143, t146, 0)) = some (r1, r2, r3) := by rw [if_pos rfl] at H; exact H
  clear H
  have H := H1
  clear H1
  simp only [Option.some.injEq, Prod.mk.injEq] at H
  obtain ⟨rfl, rfl, rfl⟩ := H
  go_enter Try.func8, Try.ntmps8
  go_wp2_with (first | ((with_reducible refine gate_dst (N := 1) rfl ?_); refine box_event ?hg (N := 1) ?hd (cs := #[.slice A0_0 l0_0.length c0_0, .slice A0_1 l0_1.length c0_1]) (t := 24) ?hr ?_; (case hd => rfl); (case hg => rfl); (case hr => first | (go_simp; done) | (go_simp; rfl)); intro gb142 hg w4 hbox hb; have n0_ := am (below_step (zL HB.out) hb); have n1_ := am (hbox); have n2_ := am (zS hg HB.out); have n3_ := am (zS hg HB.out); clear HB; have HB := n0_; have BK142 := n1_; have GW142 := n2_; have GE142 := n3_; clear n0_ n1_ n2_ n3_; clear hb hbox hg; have hcz5_0 : w4.cell? ⟨gb142, 0, none⟩ = some (.slice A0_0 l0_0.length c0_0) := (blk_cell BK142.out 0).trans rfl; have hcz5_1 : w4.cell? ⟨gb142, 1, none⟩ = some (.slice A0_1 l0_1.length c0_1) := (blk_cell BK142.out 1).trans rfl; have hfz5_0 := blk_frozen BK142.out 0; have hfz5_1 := blk_frozen BK142.out 1) | ((with_reducible refine gate_callee (f := 21) rfl ?_); refine goesL_ (some 11) rfl rfl Try.func21 (by kernel_rfl) rfl #[.agg #[.slice A0_0 l0_0.length c0_0, .slice A0_1 l0_1.length c0_1]] rfl (by (try simp only [List.map_toArray, List.map_cons, List.map_nil]); first | done | rfl | (simp only [List.length_drop, List.length_take]; rfl)) ?_; (with_reducible refine (stable_present.calls k _ _ l0_0 _ _ l0_1 t143 t146 t147 true _ ?side1 ?side2 ?side3 ?side4 A2.out).mono ?_); (case side1 => exact zC (Kd.C_below HR0_0.out HB.out)); (case side2 => exact HC0_0.out); (case side3 => exact zC (Kd.C_below HR0_1.out HB.out)); (case side4 => exact HC0_1.out); rintro e w6 ⟨v144, rfl, ho0, hb⟩; refine ⟨_, rfl, ?_⟩; have n0_ := am (Kd.R_lower ho0 (below_size (zL HB.out))); have n1_ := am (blk_below (zB BK142.out) hb); have n2_ := am (below_step (zL HB.out) hb); clear BK142 HB; have HO145 := n0_; have BK142 := n1_; have HB := n2_; clear n0_ n1_ n2_; (try clear hb); (try clear hb2); (try clear hk); (try clear hi); (try clear ho0)))
  go_ret3
  exact ⟨_, by first | rfl | (simp [errW_none, errW_some] <;> rfl) | (simp [*, errW_none, errW_some] <;> rfl), by exact zR HO145.out, by repeat (first | (with_reducible first | exact HB.out | apply ba | apply bd | apply be | refine below_set ?_ GE142.out) | exact HB.out)⟩
 ·replace c3 := Bool.eq_false_iff.mpr c3
  subst c3
  have H1 : (some (([] : List Int), 0, 10)) = some (r1, r2, r3) := by rw [if_neg (show ¬ (false = true) by decide)] at H; exact H
  clear H
  have H := H1
  clear H1
  simp only [Option.some.injEq, Prod.mk.injEq] at H
  obtain ⟨rfl, rfl, rfl⟩ := H
  go_enter Try.func8, Try.ntmps8
  go_wp2_with (first | ((with_reducible refine gate_dst (N := 1) rfl ?_); refine box_event ?hg (N := 1) ?hd (cs := #[.slice A0_0 l0_0.length c0_0, .slice A0_1 l0_1.length c0_1]) (t := 24) ?hr ?_; (case hd => rfl); (case hg => rfl); (case hr => first | (go_simp; done) | (go_simp; rfl)); intro gb142 hg w7 hbox hb; have n0_ := am (below_step (zL HB.out) hb); have n1_ := am (hbox); have n2_ := am (zS hg HB.out); have n3_ := am (zS hg HB.out); clear HB; have HB := n0_; have BK142 := n1_; have GW142 := n2_; have GE142 := n3_; clear n0_ n1_ n2_ n3_; clear hb hbox hg; have hcz8_0 : w7.cell? ⟨gb142, 0, none⟩ = some (.slice A0_0 l0_0.length c0_0) := (blk_cell BK142.out 0).trans rfl; have hcz8_1 : w7.cell? ⟨gb142, 1, none⟩ = some (.slice A0_1 l0_1.length c0_1) := (blk_cell BK142.out 1).trans rfl; have hfz8_0 := blk_frozen BK142.out 0; have hfz8_1 := blk_frozen BK142.out 1) | ((with_reducible refine gate_callee (f := 21) rfl ?_); refine goesL_ (some 11) rfl rfl Try.func21 (by kernel_rfl) rfl #[.agg #[.slice A0_0 l0_0.length c0_0, .slice A0_1 l0_1.length c0_1]] rfl (by (try simp only [List.map_toArray, List.map_cons, List.map_nil]); first | done | rfl | (simp only [List.length_drop, List.length_take]; rfl)) ?_; (with_reducible refine (stable_present.calls k _ _ l0_0 _ _ l0_1 t143 t146 t147 false _ ?side1 ?side2 ?side3 ?side4 A2.out).mono ?_); (case side1 => exact zC (Kd.C_below HR0_0.out HB.out)); (case side2 => exact HC0_0.out); (case side3 => exact zC (Kd.C_below HR0_1.out HB.out)); (case side4 => exact HC0_1.out); rintro e w9 ⟨v144, rfl, ho0, hb⟩; refine ⟨_, rfl, ?_⟩; have n0_ := am (Kd.R_lower ho0 (below_size (zL HB.out))); have n1_ := am (blk_below (zB BK142.out) hb); have n2_ := am (below_step (zL HB.out) hb); clear BK142 HB; have HO145 := n0_; have BK142 := n1_; have HB := n2_; clear n0_ n1_ n2_; (try clear hb); (try clear hb2); (try clear hk); (try clear hi); (try clear ho0)))
  go_ret3
  exact ⟨_, by first | rfl | (simp [errW_none, errW_some] <;> rfl) | (simp [*, errW_none, errW_some] <;> rfl), by first | exact Kd.R_nil _ _ _ _ _ | exact Kd.N_nil _ _ _ _ _ | exact Kd.V_nil _ _ _ _ _ | exact Kd.Q_nil _ _ _ _ _ | exact Kd.S_nil _ _ _ _ _, by repeat (first | (with_reducible first | exact HB.out | apply ba | apply bd | apply be | refine below_set ?_ GE142.out) | exact HB.out)⟩

/-! ### codec_grow: function 32 -/
def codec_grow.f (l0 : List Int) (l1 : List Int) : Option (List Int) := if 0 < l1.length then (if l0.length + l1.length < 140737488355328 then (some (l0 ++ l1)) else (none)) else (none)
set_option maxHeartbeats 8000000 in
theorem codec_grow.calls (A0 : Option Addr) (c0 : Nat) (l0 : List Int) (A1 : Option Addr) (c1 : Nat) (l1 : List Int) (r : List Int) (w : World) (hr0 : Kd.C (Kd.int .u8) w A0 l0.length l0) (hc0 : l0.length ≤ c0) (hr1 : Kd.C (Kd.int .u8) w A1 l1.length l1) (hc1 : l1.length ≤ c1) (h : codec_grow.f l0 l1 = some r) :
  Calls Try.prog 32 #[.slice A0 l0.length c0, .slice A1 l1.length c1] w fun e w' => ∃ v0_ : Value, e = .returned (v0_) ∧ Kd.R (Kd.int .u8) 5 w' w.heap.size (fun _ => True) v0_ r ∧ Below w.heap.size w w' := by
 unfold codec_grow.f at h
 by_cases h1 : 0 < l1.length
 ·rw [if_pos h1] at h
  by_cases h2 : l0.length + l1.length < 140737488355328
  ·rw [if_pos h2] at h
   injection h with h
   have HR := Aside0.mk h
   have H0 := Aside0.mk hr0
   have H1 := Aside0.mk hr1
   have HC0 := Aside0.mk hc0
   have HC1 := Aside0.mk hc1
   have HY := Aside0.mk h1
   have HL := Aside0.mk h2
   obtain ⟨i0, hi0, _, hsz, _⟩ := info_parts info5
   have hm := hr0.2.1
   have hcut := Xw.cut_to3 (P := Try.prog) 22 5 .i64 .i64 Try.underlying22 hi0 A0 l0.length c0 (l0.length : Int) (by omega) (by omega) hc0
   rw [Int.toNat_natCast] at hcut
   clear h hr0 hr1 hc0 hc1 h1 h2 hi0 hsz hm
   go_enter Try.func32, Try.ntmps32
   go_wp2_with (at_builtin; refine Xw.append_full rfl (.tmp 10) (.tmp 11) 22 5 .u8 1 rfl Try.underlying22 info5 (by decide) A0 l0 A1 c1 l1 rfl rfl H0.out H1.out HY.out (by have := HL.out; omega) ?_; intro v1 w1 hv hb)
   rw [HR.out] at hv
   go_wp2
   go_ret
   exact ⟨_, rfl, hv, hb⟩
  ·rw [if_neg h2] at h; cases h
 ·rw [if_neg h1] at h; cases h


/-! ### codec_PutUint: function 24 -/
def codec_PutUint.l0 : Nat → List Int → Int → List Int → Option (List Int)
 | 0, _, _, _ => none
 | k + 1, x0, x1, x5 => if x1 ≥ 128 then (if x5.length < 140737488355328 then (codec_PutUint.l0 k x0 (x1 / 128) (x5 ++ [Go.bits .or .u8 ((Go.bits .and .u64 x1 127) % 256) 128])) else (none)) else (if x5.length < 140737488355328 then ((codec_grow.f x0 (x5 ++ [(x1) % 256])).bind fun t155 => (some t155)) else (none))
def codec_PutUint.f (k : Nat) (l0 : List Int) (a1 : Int) : Option (List Int) := codec_PutUint.l0 k l0 a1 ([] : List Int)
theorem codec_PutUint.mono_l : ∀ k, (∀ y0 y1 y2, LeO (codec_PutUint.l0 k y0 y1 y2) (codec_PutUint.l0 (k + 1) y0 y1 y2))
 | 0 => fun _ _ _ r h => by simp [codec_PutUint.l0] at h
 | k + 1 => by
  have ih0 := codec_PutUint.mono_l k
  ·intro y0 y1 y2
   unfold codec_PutUint.l0
   repeat' first
   | (with_reducible exact ih0 _ _ _)
   | (with_reducible exact LeO.refl _)
   | (with_reducible exact LeO.none _)
   | (with_reducible refine LeO.ite ?_ ?_)
   | (with_reducible refine LeO.bind ?_ (fun _ => ?_))
   | exact ih0 _ _ _
   | exact LeO.none _
   | refine LeO.ite ?_ ?_
   | refine LeO.bind ?_ (fun _ => ?_)
theorem codec_PutUint.mono : ∀ a0 a1 k, LeO (codec_PutUint.f k a0 a1) (codec_PutUint.f (k + 1) a0 a1) := by
 intro a0 a1 k
 have ih0 := codec_PutUint.mono_l k
 unfold codec_PutUint.f
 repeat' first
   | (with_reducible exact ih0 _ _ _)
   | (with_reducible exact LeO.refl _)
   | (with_reducible exact LeO.none _)
   | (with_reducible refine LeO.ite ?_ ?_)
   | (with_reducible refine LeO.bind ?_ (fun _ => ?_))
   | exact ih0 _ _ _
   | exact LeO.none _
   | refine LeO.ite ?_ ?_
   | refine LeO.bind ?_ (fun _ => ?_)
set_option maxHeartbeats 8000000 in
set_option maxRecDepth 100000 in
theorem codec_PutUint.calls (k : Nat) (A0 : Option Addr) (c0 : Nat) (l0 : List Int) (a1 : Int) (r : List Int) (w : World) (hr0 : Kd.C (Kd.int .u8) w A0 l0.length l0) (hc0 : l0.length ≤ c0) (h : codec_PutUint.f k l0 a1 = some r) :
  Calls Try.prog 24 #[.slice A0 l0.length c0, .int .u64 a1] w fun e w' => ∃ v0_ : Value, e = .returned (v0_) ∧ Kd.R (Kd.int .u8) 5 w' w.heap.size (fun _ => True) v0_ r ∧ Below w.heap.size w w' := by
 have HR0 := Aside0.mk hr0
 have HC0 := Aside0.mk hc0
 clear hr0 hc0
 have HB := am (Below.refl w.heap.size w)
 have H : (codec_PutUint.l0 k l0 a1 ([] : List Int)) = some r := h
 clear h
 have H' := Aside0.mk H
 clear H
 go_enter Try.func24, Try.ntmps24
 go_wp2
 go_loopg [1, 5] k (fun kq v1 v5 w' => ∃ (x1_1 : Int) (x5_1 : List Int), v1 = .int .u64 x1_1 ∧ Aside0 (codec_PutUint.l0 kq l0 x1_1 x5_1 = some r) ∧ Aside0 (kq ≤ k) ∧ Aside0 (Kd.R (Kd.int .u8) 5 w' w.heap.size (fun _ => True) v5 x5_1) ∧ Aside0 (Below w.heap.size w w'))
 case atStart => exact ⟨(a1), (([] : List Int)), (by first | rfl | (simp; done) | (simp [*]; done)), H', ⟨Nat.le_refl _⟩, ⟨by first | exact Kd.R_nil _ _ _ _ _ | exact Kd.N_nil _ _ _ _ _ | exact Kd.V_nil _ _ _ _ _ | exact Kd.Q_nil _ _ _ _ _ | exact Kd.S_nil _ _ _ _ _⟩, ⟨zL HB.out⟩⟩
 case round =>
  clear H'
  try clear c2
  try clear p2
  obtain ⟨x1_1, x5_1, rfl, HA, HK1, HO_5, HB⟩ := hrel
  cases gk with
  | zero => exact absurd HA.out (by simp [codec_PutUint.l0])
  | succ k1 =>
   have H := HA.out
   clear HA
   simp only [codec_PutUint.l0] at H
   by_cases c3 : x1_1 ≥ 128
   ·rw [if_pos c3] at H
    have c3b0 : decide (128 ≤ x1_1) = true := decide_eq_true c3
    clear c3
    by_cases c4 : x5_1.length < 140737488355328
    ·rw [if_pos c4] at H
     have LMc4 := Aside0.mk c4
     clear c4
     obtain ⟨y149, hy149⟩ : ∃ y_ : List Int, y_ = (x5_1 ++ [Go.bits .or .u8 ((Go.bits .and .u64 x1_1 127) % 256) 128]) := ⟨_, rfl⟩
     replace H : (codec_PutUint.l0 k1 l0 (x1_1 / 128) y149) = some r := by first | (rw [hy149]; with_reducible exact H) | (have H2_ := (Option.bind_some _ _).symm.trans H; rw [hy149]; with_reducible exact H2_) | (have H2_ := (Option.bind_some _ _).symm.trans H; with_reducible exact H2_) | with_reducible exact H | (rw [hy149]; exact H) | exact H
     have Ny149 := Aside0.mk hy149
     clear hy149
     have H' := Aside0.mk H
     clear H
     go_wp2_with (first | ((with_reducible refine gate_builtin (b := .append) (xs := #[.tmp 8, .tmp 13]) rfl ?_); at_builtin; refine Kd.R_append (Kd.int .u8) (w0 := w) w.heap.size rfl (.tmp 8) (.tmp 13) 22 5 (.int .u8 0) 1 rfl Try.underlying22 info5 rfl (by decide) (by omega) u5 x5_1 (Go.bits .or .u8 ((Go.bits .and .u64 x1_1 127) % 256) 128) [.int .u8 (Go.bits .or .u8 ((Go.bits .and .u64 x1_1 127) % 256) 128)] (fun _ => True) (fun _ => False) rfl rfl ?aP (fun _ hk => hk.elim) ?aF ?aO ?aB ?aS ?aL ?_; (case aP => exact rfl); (case aB => exact (zL HB.out)); (case aF => exact (fun _ _ => trivial)); (case aO => exact (zR HO_5.out)); (case aS => exact (below_size (zL HB.out))); (case aL => have := LMc4.out; omega); intro v150 w5 ho hb hg hat; rw [← Ny149.out] at ho; have n0_ := am (hb); have n1_ := am (ho); clear HB HO_5; have HB := n0_; have HO151 := n1_; clear n0_ n1_; clear ho hb hg hat))
     go_roundg k1
     case measure => have := HK1.out; omega
     case rel => exact ⟨(x1_1 / 128), (y149), (by first | rfl | (simp; done) | (simp [*]; done)), H', ⟨by have := HK1.out; omega⟩, ⟨by exact zR HO151.out⟩, ⟨zL HB.out⟩⟩
    ·rw [if_neg c4] at H
     exact absurd H (by simp)
   ·rw [if_neg c3] at H
    have c3b0 : decide (128 ≤ x1_1) = false := decide_eq_false c3
    clear c3
    by_cases c6 : x5_1.length < 140737488355328
    ·rw [if_pos c6] at H
     have LMc6 := Aside0.mk c6
     clear c6
     obtain ⟨y152, hy152⟩ : ∃ y_ : List Int, y_ = (x5_1 ++ [(x1_1) % 256]) := ⟨_, rfl⟩
     replace H : ((codec_grow.f l0 y152).bind fun t155 => (some t155)) = some r := by first | (rw [hy152]; with_reducible exact H) | (have H2_ := (Option.bind_some _ _).symm.trans H; rw [hy152]; with_reducible exact H2_) | (have H2_ := (Option.bind_some _ _).symm.trans H; with_reducible exact H2_) | with_reducible exact H | (rw [hy152]; exact H) | exact H
     have Ny152 := Aside0.mk hy152
     clear hy152
     replace H := Option.bind_eq_some_iff.mp H
     obtain ⟨t155, A70, H⟩ := H
     replace H : (some t155) = some r := H
     have A7 := Aside0.mk A70
     clear A70
     obtain rfl := Option.some.inj H
     go_wp2_with (first | ((with_reducible refine gate_builtin (b := .append) (xs := #[.tmp 18, .tmp 21]) rfl ?_); at_builtin; refine Kd.R_append (Kd.int .u8) (w0 := w) w.heap.size rfl (.tmp 18) (.tmp 21) 22 5 (.int .u8 0) 1 rfl Try.underlying22 info5 rfl (by decide) (by omega) u5 x5_1 ((x1_1) % 256) [.int .u8 ((x1_1) % 256)] (fun _ => True) (fun _ => False) rfl rfl ?aP (fun _ hk => hk.elim) ?aF ?aO ?aB ?aS ?aL ?_; (case aP => exact rfl); (case aB => exact (zL HB.out)); (case aF => exact (fun _ _ => trivial)); (case aO => exact (zR HO_5.out)); (case aS => exact (below_size (zL HB.out))); (case aL => have := LMc6.out; omega); intro v153 w8 ho hb hg hat; rw [← Ny152.out] at ho; have n0_ := am (hb); have n1_ := am (ho); clear HB HO_5; have HB := n0_; have HO154 := n1_; clear n0_ n1_; clear ho hb hg hat; obtain ⟨Ao9, co9, eo9⟩ := Kd.R_slice HO154.out; subst eo9) | ((with_reducible refine gate_callee (f := 32) rfl ?_); refine goesL_ (some 23) rfl rfl Try.func32 (by kernel_rfl) rfl #[.slice A0 l0.length c0, .slice Ao9 y152.length co9] rfl (by (try simp only [List.map_toArray, List.map_cons, List.map_nil]); first | done | rfl | (simp only [List.length_drop, List.length_take]; rfl)) ?_; (with_reducible refine (codec_grow.calls _ _ l0 _ _ y152 t155 _ ?side1 ?side2 ?side3 ?side4 A7.out).mono ?_); (case side1 => exact zC (Kd.C_below HR0.out HB.out)); (case side2 => exact HC0.out); (case side3 => exact zC (Kd.R_reads' HO154.out).2.2); (case side4 => exact (Kd.R_reads' HO154.out).2.1); rintro e w10 ⟨v156, rfl, ho0, hb⟩; refine ⟨_, rfl, ?_⟩; have n0_ := am (Kd.R_elder' (zR HO154.out) (Kd.R_base ho0) hb); have n1_ := am (Kd.R_lower (Kd.R_new' ho0 (Kd.R_lt (zR HO154.out))) (below_size (zL HB.out))); have n2_ := am (below_step (zL HB.out) hb); clear HO154 HB; have HO154 := n0_; have HO157 := n1_; have HB := n2_; clear n0_ n1_ n2_; (try clear hb); (try clear hb2); (try clear hk); (try clear hi); (try clear ho0)))
     go_ret
     exact ⟨_, by first | rfl | (simp [errW_none, errW_some] <;> rfl) | (simp [*, errW_none, errW_some] <;> rfl), by exact zR <| Kd.R_mono HO157.out (fun _ hk => trivial), zL HB.out⟩
    ·rw [if_neg c6] at H
     exact absurd H (by simp)

/-! ### codec_Frame: function 23 -/
def codec_Frame.f (k : Nat) (l0 : List Int) : Option (List Int × Int) := if (l0.length : Int) > 4096 then (some (([] : List Int), 3)) else ((codec_Checksum.f k l0).bind fun t158 => ((codec_PutUint.f k ([] : List Int) (IntKind.u64.wrap ((l0.length : Int)))).bind fun t159 => (if t159.length + l0.length < 140737488355328 then ((some (t159 ++ l0 : List Int)).bind fun y162 => ((some (([(t158 / 16777216) % 256, (t158 / 65536) % 256, (t158 / 256) % 256, (t158) % 256] : List Int) : List Int)).bind fun y165 => (if y162.length + y165.length < 140737488355328 then (some ((y162 ++ y165), 0)) else (none)))) else (none))))
theorem codec_Frame.mono : ∀ a0 k, LeO (codec_Frame.f k a0) (codec_Frame.f (k + 1) a0) := by
 intro a0 k
 unfold codec_Frame.f
 repeat' first
   | (with_reducible exact codec_Checksum.mono _ _)
   | (with_reducible exact codec_PutUint.mono _ _ _)
   | (with_reducible exact LeO.refl _)
   | (with_reducible exact LeO.none _)
   | (with_reducible refine LeO.ite ?_ ?_)
   | (with_reducible refine LeO.bind ?_ (fun _ => ?_))
   | exact codec_Checksum.mono _ _
   | exact codec_PutUint.mono _ _ _
   | exact LeO.none _
   | refine LeO.ite ?_ ?_
   | refine LeO.bind ?_ (fun _ => ?_)
set_option maxHeartbeats 8000000 in
set_option maxRecDepth 100000 in
theorem codec_Frame.calls (k : Nat) (A0 : Option Addr) (c0 : Nat) (l0 : List Int) (r1 : List Int) (r2 : Int) (w : World) (hr0 : Kd.C (Kd.int .u8) w A0 l0.length l0) (hc0 : l0.length ≤ c0) (h : codec_Frame.f k l0 = some (r1, r2)) :
  Calls Try.prog 23 #[.slice A0 l0.length c0] w fun e w' => ∃ v0_ : Value, e = .returned (.tuple #[v0_, .int .i64 r2]) ∧ Kd.R (Kd.int .u8) 5 w' w.heap.size (fun _ => True) v0_ r1 ∧ Below w.heap.size w w' := by
 have HR0 := Aside0.mk hr0
 have HC0 := Aside0.mk hc0
 clear hr0 hc0
 have HB := am (Below.refl w.heap.size w)
 have H : (if (l0.length : Int) > 4096 then (some (([] : List Int), 3)) else ((codec_Checksum.f k l0).bind fun t158 => ((codec_PutUint.f k ([] : List Int) (IntKind.u64.wrap ((l0.length : Int)))).bind fun t159 => (if t159.length + l0.length < 140737488355328 then ((some (t159 ++ l0 : List Int)).bind fun y162 => ((some (([(t158 / 16777216) % 256, (t158 / 65536) % 256, (t158 / 256) % 256, (t158) % 256] : List Int) : List Int)).bind fun y165 => (if y162.length + y165.length < 140737488355328 then (some ((y162 ++ y165), 0)) else (none)))) else (none))))) = some (r1, r2) := h
 clear h
 by_cases c2 : (l0.length : Int) > 4096
 ·rw [if_pos c2] at H
  have c2b0 : decide (4096 < (l0.length : Int)) = true := decide_eq_true c2
  have c2b1 : decide (4096 < l0.length) = true := decide_eq_true (by omega)
  clear c2
  simp only [Option.some.injEq, Prod.mk.injEq] at H
  obtain ⟨rfl, rfl⟩ := H
  go_enter Try.func23, Try.ntmps23
  go_wp2
  go_ret2
  exact ⟨_, by first | rfl | (simp [errW_none, errW_some] <;> rfl) | (simp [*, errW_none, errW_some] <;> rfl), by first | exact Kd.R_nil _ _ _ _ _ | exact Kd.N_nil _ _ _ _ _ | exact Kd.V_nil _ _ _ _ _ | exact Kd.Q_nil _ _ _ _ _ | exact Kd.S_nil _ _ _ _ _, zL HB.out⟩
 ·rw [if_neg c2] at H
  have c2b0 : decide (4096 < (l0.length : Int)) = false := decide_eq_false c2
  have c2b1 : decide (4096 < l0.length) = false := decide_eq_false (by omega)
  clear c2
  replace H := Option.bind_eq_some_iff.mp H
  obtain ⟨t158, A30, H⟩ := H
  replace H : ((codec_PutUint.f k ([] : List Int) (IntKind.u64.wrap ((l0.length : Int)))).bind fun t159 => (if t159.length + l0.length < 140737488355328 then ((some (t159 ++ l0 : List Int)).bind fun y162 => ((some (([(t158 / 16777216) % 256, (t158 / 65536) % 256, (t158 / 256) % 256, (t158) % 256] : List Int) : List Int)).bind fun y165 => (if y162.length + y165.length < 140737488355328 then (some ((y162 ++ y165), 0)) else (none)))) else (none))) = some (r1, r2) := H
  have A3 := Aside0.mk A30
  clear A30
  replace H := Option.bind_eq_some_iff.mp H
  obtain ⟨t159, A40, H⟩ := H
  replace H : (if t159.length + l0.length < 140737488355328 then ((some (t159 ++ l0 : List Int)).bind fun y162 => ((some (([(t158 / 16777216) % 256, (t158 / 65536) % 256, (t158 / 256) % 256, (t158) % 256] : List Int) : List Int)).bind fun y165 => (if y162.length + y165.length < 140737488355328 then (some ((y162 ++ y165), 0)) else (none)))) else (none)) = some (r1, r2) := H
  have A4 := Aside0.mk A40
  clear A40
  by_cases c5 : t159.length + l0.length < 140737488355328
  ·rw [if_pos c5] at H
   have LMc5 := Aside0.mk c5
   clear c5
   obtain ⟨y162, hy162⟩ : ∃ y_ : List Int, y_ = (t159 ++ l0) := ⟨_, rfl⟩
   replace H : ((some (([(t158 / 16777216) % 256, (t158 / 65536) % 256, (t158 / 256) % 256, (t158) % 256] : List Int) : List Int)).bind fun y165 => (if y162.length + y165.length < 140737488355328 then (some ((y162 ++ y165), 0)) else (none))) = some (r1, r2) := by first | (rw [hy162]; with_reducible exact H) | (have H2_ := (Option.bind_some _ _).symm.trans H; rw [hy162]; with_reducible exact H2_) | (have H2_ := (Option.bind_some _ _).symm.trans H; with_reducible exact H2_) | with_reducible exact H | (rw [hy162]; exact H) | exact H
   have Ny162 := Aside0.mk hy162
   clear hy162
   obtain ⟨y165, hy165⟩ : ∃ y_ : List Int, y_ = (([(t158 / 16777216) % 256, (t158 / 65536) % 256, (t158 / 256) % 256, (t158) % 256] : List Int)) := ⟨_, rfl⟩
   replace H : (if y162.length + y165.length < 140737488355328 then (some ((y162 ++ y165), 0)) else (none)) = some (r1, r2) := by first | (rw [hy165]; with_reducible exact H) | (have H2_ := (Option.bind_some _ _).symm.trans H; rw [hy165]; with_reducible exact H2_) | (have H2_ := (Option.bind_some _ _).symm.trans H; with_reducible exact H2_) | with_reducible exact H | (rw [hy165]; exact H) | exact H
   have Ny165 := Aside0.mk hy165
   clear hy165
   by_cases c6 : y162.length + y165.length < 140737488355328
   ·rw [if_pos c6] at H
    have LMc6 := Aside0.mk c6
    clear c6
    obtain ⟨y168, hy168⟩ : ∃ y_ : List Int, y_ = (y162 ++ y165) := ⟨_, rfl⟩
    replace H : (some (y168, 0)) = some (r1, r2) := by first | (rw [hy168]; with_reducible exact H) | (have H2_ := (Option.bind_some _ _).symm.trans H; rw [hy168]; with_reducible exact H2_) | (have H2_ := (Option.bind_some _ _).symm.trans H; with_reducible exact H2_) | with_reducible exact H | (rw [hy168]; exact H) | exact H
    have Ny168 := Aside0.mk hy168
    clear hy168
    simp only [Option.some.injEq, Prod.mk.injEq] at H
    obtain ⟨rfl, rfl⟩ := H
    go_enter Try.func23, Try.ntmps23
    go_wp2_with (first | ((with_reducible refine gate_callee (f := 31) rfl ?_); refine goesL_ (some 10) rfl rfl Try.func31 (by kernel_rfl) rfl #[.slice A0 l0.length c0] rfl (by (try simp only [List.map_toArray, List.map_cons, List.map_nil]); first | done | rfl | (simp only [List.length_drop, List.length_take]; rfl)) ?_; (with_reducible refine (codec_Checksum.calls k _ _ l0 t158 _ ?side1 ?side2 A3.out).mono ?_); (case side1 => exact zC HR0.out); (case side2 => exact HC0.out); rintro e w' ⟨rfl, ⟨nd, rfl⟩⟩; refine ⟨_, rfl, ?_⟩) | ((with_reducible refine gate_callee (f := 24) rfl ?_); refine goesL_ (some 14) rfl rfl Try.func24 (by kernel_rfl) rfl #[.slice none 0 0, .int .u64 (IntKind.u64.wrap ((l0.length : Int)))] rfl (by (try simp only [List.map_toArray, List.map_cons, List.map_nil]); first | done | rfl | (simp only [List.length_drop, List.length_take]; rfl)) ?_; (refine (codec_PutUint.calls k _ _ ([] : List Int) (IntKind.u64.wrap ((l0.length : Int))) t159 _ ?side1 ?side2 A4.out).mono ?_); (case side1 => exact Kd.C_nil _ _); (case side2 => exact Nat.le_refl _); rintro e w7 ⟨v160, rfl, ho0, hb⟩; refine ⟨_, rfl, ?_⟩; have n0_ := am (Kd.R_lower ho0 (below_size (zL HB.out))); have n1_ := am (below_step (zL HB.out) hb); clear HB; have HO161 := n0_; have HB := n1_; clear n0_ n1_; (try clear hb); (try clear hb2); (try clear hk); (try clear hi); (try clear ho0)) | ((with_reducible refine gate_builtin (b := .append) (xs := #[.tmp 14, .tmp 15]) rfl ?_); at_builtin; refine Kd.R_append_rows (Kd.int .u8) (w0 := w) w.heap.size rfl (.tmp 14) (.tmp 15) 22 5 (.int .u8 0) 1 rfl Try.underlying22 info5 rfl (by decide) (by omega) v160 t159 l0 _ _ _ (fun _ => True) (fun _ => False) rfl rfl ?aO ?aR (fun _ _ h => h) (fun _ h => h.elim) ?aF ?aB ?aS ?aL ?_; (case aR => exact zC (Kd.C_below HR0.out HB.out)); (case aB => exact (zL HB.out)); (case aF => exact (fun _ _ => trivial)); (case aO => exact (zR HO161.out)); (case aS => exact (below_size (zL HB.out))); (case aL => have := LMc5.out; omega); intro v163 w8 ho hb hg hat; rw [← Ny162.out] at ho; have n0_ := am (hb); have n1_ := am (ho); clear HB HO161; have HB := n0_; have HO164 := n1_; clear n0_ n1_; clear ho hb hg hat) | ((with_reducible refine gate_dst (N := 29) rfl ?_); refine Kd.R_lit (Kd.int .u8) _ 5 ?hg (N := 29) ?hd (xs := ([(t158 / 16777216) % 256, (t158 / 65536) % 256, (t158 / 256) % 256, (t158) % 256] : List Int)) (inner := [.int .u8 ((t158 / 16777216) % 256), .int .u8 ((t158 / 65536) % 256), .int .u8 ((t158 / 256) % 256), .int .u8 ((t158) % 256)]) (ok := fun _ => True) (okp := fun _ => True) ?hr ?hp (fun _ hk => hk) trivial (Below.refl _ _) (Nat.le_refl _) (by simp) ?_; (case hd => rfl); (case hg => rfl); (case hr => first | (go_simp; done) | (go_simp; rfl)); (case hp => exact (Reps.one (show Kd.M (Kd.int .u8) _ _ _ ((t158 / 16777216) % 256) [.int .u8 ((t158 / 16777216) % 256)] from rfl) (Reps.one (show Kd.M (Kd.int .u8) _ _ _ ((t158 / 65536) % 256) [.int .u8 ((t158 / 65536) % 256)] from rfl) (Reps.one (show Kd.M (Kd.int .u8) _ _ _ ((t158 / 256) % 256) [.int .u8 ((t158 / 256) % 256)] from rfl) (Reps.one (show Kd.M (Kd.int .u8) _ _ _ ((t158) % 256) [.int .u8 ((t158) % 256)] from rfl) (Reps.none _ _)))))); intro v166 w9 ho10 hb hg_ hnew_; clear hg_ hnew_; (first | rw [← Ny165.out] at ho10 | (simp only [Int.reduceToNat] at ho10; rw [← Ny165.out] at ho10)); have n0_ := am (Kd.R_elder' (zR HO164.out) (Kd.R_base ho10) hb); have n1_ := am (Kd.R_lower (Kd.R_new' ho10 (Kd.R_lt (zR HO164.out))) (below_size (zL HB.out))); have n2_ := am (below_step (zL HB.out) hb); clear HO164 HB; have HO164 := n0_; have HO167 := n1_; have HB := n2_; clear n0_ n1_ n2_; clear hb ho10; obtain ⟨Ao12, co12, eo12⟩ := Kd.R_slice HO167.out; subst eo12) | ((with_reducible refine gate_builtin (b := .append) (xs := #[.tmp 17, .tmp 29]) rfl ?_); at_builtin; refine Kd.R_append_rows (Kd.int .u8) (w0 := w) w.heap.size rfl (.tmp 17) (.tmp 29) 22 5 (.int .u8 0) 1 rfl Try.underlying22 info5 rfl (by decide) (by omega) v163 y162 y165 _ _ _ (fun k_ => some k_ ≠ (.slice Ao12 y165.length co12 : Value).ownBlock) (fun _ => False) rfl rfl ?aO ?aR (fun _ _ h => h) (fun _ h => h.elim) ?aF ?aB ?aS ?aL ?_; (case aR => exact zC (Kd.R_reads' HO167.out).2.2); (case aB => exact (zL HB.out)); (case aF => exact (fun k_ hk => Kd.fresh' (Kd.R_lt (zR HO167.out)) k_ hk)); (case aO => exact (by exact zR <| Kd.R_mono HO164.out (fun _ hk => hk.2))); (case aS => exact (below_size (zL HB.out))); (case aL => have := LMc6.out; omega); intro v169 w11 ho hb hg hat; rw [← Ny168.out] at ho; have n0_ := am (Kd.R_after (ok := (fun _ => True)) (zR HO167.out) hg hat); have n1_ := am (hb); have n2_ := am (ho); clear HO167 HB HO164; have HO167 := n0_; have HB := n1_; have HO170 := n2_; clear n0_ n1_ n2_; clear ho hb hg hat))
    go_ret2
    exact ⟨_, by first | rfl | (simp [errW_none, errW_some] <;> rfl) | (simp [*, errW_none, errW_some] <;> rfl), by exact zR <| Kd.R_mono HO170.out (fun _ hk => trivial), zL HB.out⟩
   ·rw [if_neg c6] at H
    exact absurd H (by simp)
  ·rw [if_neg c5] at H
   exact absurd H (by simp)

end Go.Proofs.Ytjdicbffpbpenaa.Y

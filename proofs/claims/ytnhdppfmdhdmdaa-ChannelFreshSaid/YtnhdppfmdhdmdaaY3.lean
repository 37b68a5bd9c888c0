-- Laid by a program of this session's (xprint.py, which runs the kit's print.py with patches of its own). Lean checks it.
import Derived.Test.YtnhdppfmdhdmdaaY0
import Derived.Test.YtnhdppfmdhdmdaaY1
import Derived.Test.YtnhdppfmdhdmdaaY2
namespace Go.Proofs.Ytnhdppfmdhdmdaa.Y
open Go.RowKit Go.Proofs.YtnhdppfmdhdmdaaW.PrintWords Go.Proofs.YtnhdppfmdhdmdaaW.PrintLast Go.Proofs.YtnhdppfmdhdmdaaW.PrintMore
attribute [local go_sem] max2_int min2_int max_two min_two max_three min_three max_four min_four   -- for this text's walks alone
set_option linter.unusedVariables false
set_option linter.unusedSimpArgs false

/-! ### clusterlocksref23_Copy: function 12 -/
def clusterlocksref23_Copy.l0 : Nat → List (List Int) → List (List Int) → Int → Int → Option ((List (List Int)))
 | 0, _, _, _, _ => none
 | k + 1, x3, x6, x7, x8 => if x8 < x7 then (if 0 ≤ x8 then (if x8 < (x6.length : Int) then (if ([] : List Int).length + (rd_L1 x6 x8).length < 140737488355328 then (if x3.length < 5864062014805 then (clusterlocksref23_Copy.l0 k (x3 ++ [(([] : List Int) ++ (rd_L1 x6 x8))]) x6 x7 (wrap64 (x8 + 1))) else (none)) else (none)) else (none)) else (none)) else (some x3)
def clusterlocksref23_Copy.f (k : Nat) (l0 : List (List Int)) : Option ((List (List Int))) := clusterlocksref23_Copy.l0 k ([] : List (List Int)) l0 (l0.length : Int) 0
theorem clusterlocksref23_Copy.mono_l : ∀ k, (∀ y0 y1 y2 y3, LeO (clusterlocksref23_Copy.l0 k y0 y1 y2 y3) (clusterlocksref23_Copy.l0 (k + 1) y0 y1 y2 y3))
 | 0 => fun _ _ _ _ r h => by simp [clusterlocksref23_Copy.l0] at h
 | k + 1 => by
  have ih0 := clusterlocksref23_Copy.mono_l k
  ·intro y0 y1 y2 y3
   unfold clusterlocksref23_Copy.l0
   repeat' first
   | (with_reducible exact ih0 _ _ _ _)
   | (with_reducible exact LeO.refl _)
   | (with_reducible exact LeO.none _)
   | (with_reducible refine LeO.ite ?_ ?_)
   | (with_reducible refine LeO.bind ?_ (fun _ => ?_))
   | exact ih0 _ _ _ _
   | exact LeO.none _
   | refine LeO.ite ?_ ?_
   | refine LeO.bind ?_ (fun _ => ?_)
theorem clusterlocksref23_Copy.mono : ∀ a0 k, LeO (clusterlocksref23_Copy.f k a0) (clusterlocksref23_Copy.f (k + 1) a0) := by
 intro a0 k
 have ih0 := clusterlocksref23_Copy.mono_l k
 unfold clusterlocksref23_Copy.f
 repeat' first
   | (with_reducible exact ih0 _ _ _ _)
   | (with_reducible exact LeO.refl _)
   | (with_reducible exact LeO.none _)
   | (with_reducible refine LeO.ite ?_ ?_)
   | (with_reducible refine LeO.bind ?_ (fun _ => ?_))
   | exact ih0 _ _ _ _
   | exact LeO.none _
   | refine LeO.ite ?_ ?_
   | refine LeO.bind ?_ (fun _ => ?_)
set_option maxHeartbeats 8000000 in
set_option maxRecDepth 100000 in
theorem clusterlocksref23_Copy.calls (k : Nat) (A0 : Option Addr) (c0 : Nat) (l0 : List (List Int)) (r : List (List Int)) (w : World) (hr0 : Kd.C (Kd.slice 5 (Kd.int .u8)) w A0 l0.length l0) (hc0 : l0.length ≤ c0) (h : clusterlocksref23_Copy.f k l0 = some r) :
  Calls Try.prog 12 #[.slice A0 l0.length c0] w fun e w' => ∃ v0_ : Value, e = .returned (v0_) ∧ Kd.S (Kd.slice 5 (Kd.int .u8)) 25 w' w.heap.size (fun _ => True) v0_ r ∧ Below w.heap.size w w' := by
 have HR0 := Aside0.mk hr0
 have HC0 := Aside0.mk hc0
 clear hr0 hc0
 have HB := am (Below.refl w.heap.size w)
 have H : (clusterlocksref23_Copy.l0 k ([] : List (List Int)) l0 (l0.length : Int) 0) = some r := h
 clear h
 have H' := Aside0.mk H
 clear H
 go_enter Try.func12, Try.ntmps12
 go_wp2
 go_loopg [3, 8] k (fun kq v3 v8 w' => ∃ (x3_1 : List (List Int)) (x8_1 : Int), v8 = .int .i64 x8_1 ∧ Aside0 (clusterlocksref23_Copy.l0 kq x3_1 l0 (l0.length : Int) x8_1 = some r) ∧ Aside0 (kq ≤ k) ∧ Aside0 (Kd.S (Kd.slice 5 (Kd.int .u8)) 25 w' w.heap.size (fun _ => True) v3 x3_1) ∧ Aside0 (Below w.heap.size w w'))
 case atStart => exact ⟨(([] : List (List Int))), (0), (by first | rfl | (simp; done) | (simp [*]; done)), H', ⟨Nat.le_refl _⟩, ⟨by first | exact Kd.S_nil _ _ _ _ _ | exact Kd.N_nil _ _ _ _ _ | exact Kd.V_nil _ _ _ _ _ | exact Kd.Q_nil _ _ _ _ _ | exact Kd.R_nil _ _ _ _ _⟩, ⟨zL HB.out⟩⟩
 case round =>
  clear H'
  try clear c1
  obtain ⟨x3_1, x8_1, rfl, HA, HK1, HO_3, HB⟩ := hrel
  cases gk with
  | zero => exact absurd HA.out (by simp [clusterlocksref23_Copy.l0])
  | succ k1 =>
   have H := HA.out
   clear HA
   simp only [clusterlocksref23_Copy.l0] at H
   by_cases c2 : x8_1 < (l0.length : Int)
   ·rw [if_pos c2] at H
    have c2b0 : decide (x8_1 < (l0.length : Int)) = true := decide_eq_true c2
    clear c2
    by_cases c3 : 0 ≤ x8_1
    ·rw [if_pos c3] at H
     have c3b0 : decide (0 ≤ x8_1) = true := decide_eq_true c3
     clear c3
     by_cases c4 : x8_1 < (l0.length : Int)
     ·rw [if_pos c4] at H
      have c4b0 : decide (x8_1 < (l0.length : Int)) = true := decide_eq_true c4
      clear c4
      by_cases c5 : ([] : List Int).length + (rd_L1 l0 x8_1).length < 140737488355328
      ·rw [if_pos c5] at H
       have LMc5 := Aside0.mk c5
       clear c5
       obtain ⟨y171, hy171⟩ : ∃ y_ : List Int, y_ = (([] : List Int) ++ (rd_L1 l0 x8_1)) := ⟨_, rfl⟩
       replace H : (if x3_1.length < 5864062014805 then (clusterlocksref23_Copy.l0 k1 (x3_1 ++ [y171]) l0 (l0.length : Int) (wrap64 (x8_1 + 1))) else (none)) = some r := by first | (rw [hy171]; with_reducible exact H) | (have H2_ := (Option.bind_some _ _).symm.trans H; rw [hy171]; with_reducible exact H2_) | (have H2_ := (Option.bind_some _ _).symm.trans H; with_reducible exact H2_) | with_reducible exact H | (rw [hy171]; exact H) | exact H
       have Ny171 := Aside0.mk hy171
       clear hy171
       by_cases c6 : x3_1.length < 5864062014805
       ·rw [if_pos c6] at H
        have LMc6 := Aside0.mk c6
        clear c6
        obtain ⟨y174, hy174⟩ : ∃ y_ : List (List Int), y_ = (x3_1 ++ [y171]) := ⟨_, rfl⟩
        replace H : (clusterlocksref23_Copy.l0 k1 y174 l0 (l0.length : Int) (wrap64 (x8_1 + 1))) = some r := by first | (rw [hy174]; with_reducible exact H) | (have H2_ := (Option.bind_some _ _).symm.trans H; rw [hy174]; with_reducible exact H2_) | (have H2_ := (Option.bind_some _ _).symm.trans H; with_reducible exact H2_) | with_reducible exact H | (rw [hy174]; exact H) | exact H
        have Ny174 := Aside0.mk hy174
        clear hy174
        have H' := Aside0.mk H
        clear H
        have p170 : 0 ≤ (x8_1 : Int) := of_decide_eq_true (by first | (with_reducible assumption) | assumption)
        have q170 : x8_1 < (l0.length : Int) := of_decide_eq_true (by first | (with_reducible assumption) | assumption)
        obtain ⟨ad170, A170_0, c170_0, e170, hx170_0, hl170_0, hi170_0⟩ := at_L1 HR0.out x8_1 p170 q170
        cases e170
        replace hx170_0 := (HB.out.cell (World.block_lt_of_cell? w _ hx170_0)).trans hx170_0
        have HR170_0 := Aside0.mk hi170_0
        have HC170_0 := Aside0.mk hl170_0
        clear hi170_0 hl170_0
        replace p170 := eq_true p170
        replace q170 := eq_true q170
        go_wp2_with (first | ((with_reducible refine gate_builtin (b := .append) (xs := #[.const (.slice none 0 0), .tmp 13]) rfl ?_); at_builtin; refine Kd.R_append_rows (Kd.int .u8) (w0 := w) w.heap.size rfl (.const (.slice none 0 0)) (.tmp 13) 25 5 (.int .u8 0) 1 rfl Try.underlying25 info5 rfl (by decide) (by omega) (.slice none 0 0) ([] : List Int) (rd_L1 l0 x8_1) _ _ _ (fun _ => True) (fun _ => False) rfl rfl ?aO ?aR (fun _ _ h => h) (fun _ h => h.elim) ?aF ?aB ?aS ?aL ?_; (case aR => exact zC (Kd.C_below HR170_0.out HB.out)); (case aB => exact (zL HB.out)); (case aF => exact (fun _ _ => trivial)); (case aO => exact ((Kd.R_nil _ _ _ _ (fun _ => True)))); (case aS => exact (below_size (zL HB.out))); (case aL => have := LMc5.out; omega); intro v172 w7 ho hb hg hat; rw [← Ny171.out] at ho; have n0_ := am (Kd.S_after (Kd.S_apart_nil (by (with_reducible repeat (first | apply Kd.S_alloc | apply Kd.S_drewN | apply Kd.S_drew)); exact HO_3.out)) hg hat); have n1_ := am (hb); have n2_ := am (ho); clear HO_3 HB; have HO_3 := n0_; have HB := n1_; have HO173 := n2_; clear n0_ n1_ n2_; clear ho hb hg hat; obtain ⟨Ao9, co9, eo9⟩ := Kd.R_slice HO173.out; subst eo9) | ((with_reducible refine gate_builtin (b := .append) (xs := #[.tmp 12, .tmp 15]) rfl ?_); at_builtin; refine Kd.S_append (Kd.slice 5 (Kd.int .u8)) (w0 := w) w.heap.size rfl (.tmp 12) (.tmp 15) 22 25 (.slice none 0 0) 24 rfl Try.underlying22 info25 rfl (by decide) (by omega) u3 x3_1 y171 [.slice Ao9 y171.length co9] (fun _ => True) (fun k_ => some k_ = (.slice Ao9 y171.length co9 : Value).ownBlock) rfl rfl ?aP (fun k_ hk_ => ((Kd.R_mono (ok' := fun k_ => ((fun _ => True)) k_ ∧ some k_ ≠ (u3 : Value).ownBlock) (Kd.R_apart' (HO173.out) (Kd.S_typed HO_3.out) (by decide)) (fun k_ hk => ⟨trivial, hk.2⟩))).1 k_ hk_.symm) ?aF ?aO ?aB ?aS ?aL ?_; (case aP => exact Kd.M_row (Kd.R_mono (Kd.R_tight rfl (Kd.R_mono (ok' := fun k_ => ((fun _ => True)) k_ ∧ some k_ ≠ (u3 : Value).ownBlock) (Kd.R_apart' (HO173.out) (Kd.S_typed HO_3.out) (by decide)) (fun k_ hk => ⟨trivial, hk.2⟩))) (fun _ h_ => h_))); (case aB => exact (zL HB.out)); (case aF => exact (fun _ _ => trivial)); (case aO => exact (by (with_reducible repeat (first | apply Kd.S_alloc | apply Kd.S_drewN | apply Kd.S_drew)); exact Kd.S_mono HO_3.out (fun k_ hk => ⟨trivial, fun e_ => hk.2 e_⟩))); (case aS => exact (below_size (zL HB.out))); (case aL => have := LMc6.out; omega); intro v175 w8 ho hb hg hat; rw [← Ny174.out] at ho; have n0_ := am (hb); have n1_ := am (ho); clear HB HO_3 HO173; have HB := n0_; have HO176 := n1_; clear n0_ n1_; clear ho hb hg hat))
        go_roundg k1
        case measure => have := HK1.out; omega
        case rel => exact ⟨(y174), (wrap64 (x8_1 + 1)), (by first | rfl | (simp; done) | (simp [*]; done)), H', ⟨by have := HK1.out; omega⟩, ⟨by (with_reducible repeat (first | apply Kd.S_alloc | apply Kd.S_drewN | apply Kd.S_drew)); exact HO176.out⟩, ⟨zL HB.out⟩⟩
       ·rw [if_neg c6] at H
        exact absurd H (by simp)
      ·rw [if_neg c5] at H
       exact absurd H (by simp)
     ·rw [if_neg c4] at H
      exact absurd H (by simp)
    ·rw [if_neg c3] at H
     exact absurd H (by simp)
   ·rw [if_neg c2] at H
    have c2b0 : decide (x8_1 < (l0.length : Int)) = false := decide_eq_false c2
    clear c2
    obtain rfl := Option.some.inj H
    go_wp2
    go_ret
    exact ⟨_, by first | rfl | (simp [errW_none, errW_some] <;> rfl) | (simp [*, errW_none, errW_some] <;> rfl), by (with_reducible repeat (first | apply Kd.S_alloc | apply Kd.S_drewN | apply Kd.S_drew)); exact HO_3.out, zL HB.out⟩

/-! ### clusterlocksref23_Send: function 16 -/
def clusterlocksref23_Send.f (k : Nat) (l0 : List (List Int)) (l1 : List Int) : Option ((List (List Int)) × Int) := (clusterlocksref23_Valid.f k l0).bind fun t177 => (if t177 = true then ((clusterlocksref23_packet.f l1).bind fun t178 => (if t178 = true then (if (l0.length : Int) = 8 then (some (([] : List (List Int)), 20)) else ((clusterlocksref23_Copy.f k l0).bind fun t179 => (if ([] : List Int).length + l1.length < 140737488355328 then (if t179.length < 5864062014805 then (some ((t179 ++ [(([] : List Int) ++ l1)]), 0)) else (none)) else (none)))) else (some (([] : List (List Int)), 1)))) else (some (([] : List (List Int)), 2)))
theorem clusterlocksref23_Send.mono : ∀ a0 a1 k, LeO (clusterlocksref23_Send.f k a0 a1) (clusterlocksref23_Send.f (k + 1) a0 a1) := by
 intro a0 a1 k
 unfold clusterlocksref23_Send.f
 repeat' first
   | (with_reducible exact clusterlocksref23_Copy.mono _ _)
   | (with_reducible exact clusterlocksref23_Valid.mono _ _)
   | (with_reducible exact LeO.refl _)
   | (with_reducible exact LeO.none _)
   | (with_reducible refine LeO.ite ?_ ?_)
   | (with_reducible refine LeO.bind ?_ (fun _ => ?_))
   | exact clusterlocksref23_Copy.mono _ _
   | exact clusterlocksref23_Valid.mono _ _
   | exact LeO.none _
   | refine LeO.ite ?_ ?_
   | refine LeO.bind ?_ (fun _ => ?_)
set_option maxHeartbeats 8000000 in
set_option maxRecDepth 100000 in
theorem clusterlocksref23_Send.calls (k : Nat) (A0 : Option Addr) (c0 : Nat) (l0 : List (List Int)) (A1 : Option Addr) (c1 : Nat) (l1 : List Int) (r1 : List (List Int)) (r2 : Int) (w : World) (hr0 : Kd.C (Kd.slice 5 (Kd.int .u8)) w A0 l0.length l0) (hc0 : l0.length ≤ c0) (hr1 : Kd.C (Kd.int .u8) w A1 l1.length l1) (hc1 : l1.length ≤ c1) (h : clusterlocksref23_Send.f k l0 l1 = some (r1, r2)) :
  Calls Try.prog 16 #[.slice A0 l0.length c0, .slice A1 l1.length c1] w fun e w' => ∃ v0_ : Value, e = .returned (.tuple #[v0_, .int .i64 r2]) ∧ Kd.S (Kd.slice 5 (Kd.int .u8)) 25 w' w.heap.size (fun _ => True) v0_ r1 ∧ Below w.heap.size w w' := by
 have HR0 := Aside0.mk hr0
 have HC0 := Aside0.mk hc0
 clear hr0 hc0
 have HR1 := Aside0.mk hr1
 have HC1 := Aside0.mk hc1
 clear hr1 hc1
 have HB := am (Below.refl w.heap.size w)
 have H : ((clusterlocksref23_Valid.f k l0).bind fun t177 => (if t177 = true then ((clusterlocksref23_packet.f l1).bind fun t178 => (if t178 = true then (if (l0.length : Int) = 8 then (some (([] : List (List Int)), 20)) else ((clusterlocksref23_Copy.f k l0).bind fun t179 => (if ([] : List Int).length + l1.length < 140737488355328 then (if t179.length < 5864062014805 then (some ((t179 ++ [(([] : List Int) ++ l1)]), 0)) else (none)) else (none)))) else (some (([] : List (List Int)), 1)))) else (some (([] : List (List Int)), 2)))) = some (r1, r2) := h
 clear h
 replace H := Option.bind_eq_some_iff.mp H
 obtain ⟨t177, A30, H⟩ := H
 replace H : (if t177 = true then ((clusterlocksref23_packet.f l1).bind fun t178 => (if t178 = true then (if (l0.length : Int) = 8 then (some (([] : List (List Int)), 20)) else ((clusterlocksref23_Copy.f k l0).bind fun t179 => (if ([] : List Int).length + l1.length < 140737488355328 then (if t179.length < 5864062014805 then (some ((t179 ++ [(([] : List Int) ++ l1)]), 0)) else (none)) else (none)))) else (some (([] : List (List Int)), 1)))) else (some (([] : List (List Int)), 2))) = some (r1, r2) := H
 have A3 := Aside0.mk A30
 clear A30
 by_cases c4 : t177 = true
 ·subst c4
  have H1 : ((clusterlocksref23_packet.f l1).bind fun t178 => (if t178 = true then (if (l0.length : Int) = 8 then (some (([] : List (List Int)), 20)) else ((clusterlocksref23_Copy.f k l0).bind fun t179 => (if ([] : List Int).length + l1.length < 140737488355328 then (if t179.length < 5864062014805 then (some ((t179 ++ [(([] : List Int) ++ l1)]), 0)) else (none)) else (none)))) else (some (([] : List (List Int)), 1)))) = some (r1, r2) := by rw [if_pos rfl] at H; exact H
  clear H
  have H := H1
  clear H1
  replace H := Option.bind_eq_some_iff.mp H
  obtain ⟨t178, A50, H⟩ := H
  replace H : (if t178 = true then (if (l0.length : Int) = 8 then (some (([] : List (List Int)), 20)) else ((clusterlocksref23_Copy.f k l0).bind fun t179 => (if ([] : List Int).length + l1.length < 140737488355328 then (if t179.length < 5864062014805 then (some ((t179 ++ [(([] : List Int) ++ l1)]), 0)) else (none)) else (none)))) else (some (([] : List (List Int)), 1))) = some (r1, r2) := H
  have A5 := Aside0.mk A50
  clear A50
  by_cases c6 : t178 = true
  ·subst c6
   have H1 : (if (l0.length : Int) = 8 then (some (([] : List (List Int)), 20)) else ((clusterlocksref23_Copy.f k l0).bind fun t179 => (if ([] : List Int).length + l1.length < 140737488355328 then (if t179.length < 5864062014805 then (some ((t179 ++ [(([] : List Int) ++ l1)]), 0)) else (none)) else (none)))) = some (r1, r2) := by rw [if_pos rfl] at H; exact H
   clear H
   have H := H1
   clear H1
   by_cases c7 : (l0.length : Int) = 8
   ·rw [if_pos c7] at H
    have c7b0 : ((l0.length : Int) == 8) = true := beq_iff_eq.mpr c7
    have c7b1 : ((l0.length : Int) != 8) = false := bne_eq_false_iff_eq.mpr c7
    clear c7
    simp only [Option.some.injEq, Prod.mk.injEq] at H
    obtain ⟨rfl, rfl⟩ := H
    go_enter Try.func16, Try.ntmps16
    go_wp2_with (first | ((with_reducible refine gate_callee (f := 11) rfl ?_); refine goesL_ (some 8) rfl rfl Try.func11 (by kernel_rfl) rfl #[.slice A0 l0.length c0] rfl (by (try simp only [List.map_toArray, List.map_cons, List.map_nil]); first | done | rfl | (simp only [List.length_drop, List.length_take]; rfl)) ?_; (with_reducible refine (clusterlocksref23_Valid.calls k _ _ l0 true _ ?side1 ?side2 A3.out).mono ?_); (case side1 => exact zC HR0.out); (case side2 => exact HC0.out); rintro e w' ⟨rfl, ⟨nd, rfl⟩⟩; refine ⟨_, rfl, ?_⟩) | ((with_reducible refine gate_callee (f := 29) rfl ?_); refine goesL_ (some 12) rfl rfl Try.func29 (by kernel_rfl) rfl #[.slice A1 l1.length c1] rfl (by (try simp only [List.map_toArray, List.map_cons, List.map_nil]); first | done | rfl | (simp only [List.length_drop, List.length_take]; rfl)) ?_; (with_reducible refine (clusterlocksref23_packet.calls _ _ l1 true _ ?side1 ?side2 A5.out).mono ?_); (case side1 => exact zC HR1.out); (case side2 => exact HC1.out); rintro e w' ⟨rfl, ⟨nd, rfl⟩⟩; refine ⟨_, rfl, ?_⟩))
    go_ret2
    exact ⟨_, by first | rfl | (simp [errW_none, errW_some] <;> rfl) | (simp [*, errW_none, errW_some] <;> rfl), by first | exact Kd.S_nil _ _ _ _ _ | exact Kd.N_nil _ _ _ _ _ | exact Kd.V_nil _ _ _ _ _ | exact Kd.Q_nil _ _ _ _ _ | exact Kd.R_nil _ _ _ _ _, zL HB.out⟩
   ·rw [if_neg c7] at H
    have c7b0 : ((l0.length : Int) == 8) = false := beq_eq_false_iff_ne.mpr c7
    have c7b1 : ((l0.length : Int) != 8) = true := bne_iff_ne.mpr c7
    replace H := Option.bind_eq_some_iff.mp H
    obtain ⟨t179, A80, H⟩ := H
    replace H : (if ([] : List Int).length + l1.length < 140737488355328 then (if t179.length < 5864062014805 then (some ((t179 ++ [(([] : List Int) ++ l1)]), 0)) else (none)) else (none)) = some (r1, r2) := H
    have A8 := Aside0.mk A80
    clear A80
    by_cases c9 : ([] : List Int).length + l1.length < 140737488355328
    ·rw [if_pos c9] at H
     have LMc9 := Aside0.mk c9
     clear c9
     obtain ⟨y182, hy182⟩ : ∃ y_ : List Int, y_ = (([] : List Int) ++ l1) := ⟨_, rfl⟩
     replace H : (if t179.length < 5864062014805 then (some ((t179 ++ [y182]), 0)) else (none)) = some (r1, r2) := by first | (rw [hy182]; with_reducible exact H) | (have H2_ := (Option.bind_some _ _).symm.trans H; rw [hy182]; with_reducible exact H2_) | (have H2_ := (Option.bind_some _ _).symm.trans H; with_reducible exact H2_) | with_reducible exact H | (rw [hy182]; exact H) | exact H
     have Ny182 := Aside0.mk hy182
     clear hy182
     by_cases c10 : t179.length < 5864062014805
     ·rw [if_pos c10] at H
      have LMc10 := Aside0.mk c10
      clear c10
      obtain ⟨y185, hy185⟩ : ∃ y_ : List (List Int), y_ = (t179 ++ [y182]) := ⟨_, rfl⟩
      replace H : (some (y185, 0)) = some (r1, r2) := by first | (rw [hy185]; with_reducible exact H) | (have H2_ := (Option.bind_some _ _).symm.trans H; rw [hy185]; with_reducible exact H2_) | (have H2_ := (Option.bind_some _ _).symm.trans H; with_reducible exact H2_) | with_reducible exact H | (rw [hy185]; exact H) | exact H
      have Ny185 := Aside0.mk hy185
      clear hy185
      simp only [Option.some.injEq, Prod.mk.injEq] at H
      obtain ⟨rfl, rfl⟩ := H
      go_enter Try.func16, Try.ntmps16
      go_wp2_with (first | ((with_reducible refine gate_callee (f := 11) rfl ?_); refine goesL_ (some 8) rfl rfl Try.func11 (by kernel_rfl) rfl #[.slice A0 l0.length c0] rfl (by (try simp only [List.map_toArray, List.map_cons, List.map_nil]); first | done | rfl | (simp only [List.length_drop, List.length_take]; rfl)) ?_; (with_reducible refine (clusterlocksref23_Valid.calls k _ _ l0 true _ ?side1 ?side2 A3.out).mono ?_); (case side1 => exact zC HR0.out); (case side2 => exact HC0.out); rintro e w' ⟨rfl, ⟨nd, rfl⟩⟩; refine ⟨_, rfl, ?_⟩) | ((with_reducible refine gate_callee (f := 29) rfl ?_); refine goesL_ (some 12) rfl rfl Try.func29 (by kernel_rfl) rfl #[.slice A1 l1.length c1] rfl (by (try simp only [List.map_toArray, List.map_cons, List.map_nil]); first | done | rfl | (simp only [List.length_drop, List.length_take]; rfl)) ?_; (with_reducible refine (clusterlocksref23_packet.calls _ _ l1 true _ ?side1 ?side2 A5.out).mono ?_); (case side1 => exact zC HR1.out); (case side2 => exact HC1.out); rintro e w' ⟨rfl, ⟨nd, rfl⟩⟩; refine ⟨_, rfl, ?_⟩) | ((with_reducible refine gate_callee (f := 12) rfl ?_); refine goesL_ (some 19) rfl rfl Try.func12 (by kernel_rfl) rfl #[.slice A0 l0.length c0] rfl (by (try simp only [List.map_toArray, List.map_cons, List.map_nil]); first | done | rfl | (simp only [List.length_drop, List.length_take]; rfl)) ?_; (with_reducible refine (clusterlocksref23_Copy.calls k _ _ l0 t179 _ ?side1 ?side2 A8.out).mono ?_); (case side1 => exact zC HR0.out); (case side2 => exact HC0.out); rintro e w11 ⟨v180, rfl, ho0, hb⟩; refine ⟨_, rfl, ?_⟩; have n0_ := am (Kd.S_lower ho0 (below_size (zL HB.out))); have n1_ := am (below_step (zL HB.out) hb); clear HB; have HO181 := n0_; have HB := n1_; clear n0_ n1_; (try clear hb); (try clear hb2); (try clear hk); (try clear hi); (try clear ho0)) | ((with_reducible refine gate_builtin (b := .append) (xs := #[.const (.slice none 0 0), .tmp 20]) rfl ?_); at_builtin; refine Kd.R_append_rows (Kd.int .u8) (w0 := w) w.heap.size rfl (.const (.slice none 0 0)) (.tmp 20) 25 5 (.int .u8 0) 1 rfl Try.underlying25 info5 rfl (by decide) (by omega) (.slice none 0 0) ([] : List Int) l1 _ _ _ (fun _ => True) (fun _ => False) rfl rfl ?aO ?aR (fun _ _ h => h) (fun _ h => h.elim) ?aF ?aB ?aS ?aL ?_; (case aR => exact zC (Kd.C_below HR1.out HB.out)); (case aB => exact (zL HB.out)); (case aF => exact (fun _ _ => trivial)); (case aO => exact ((Kd.R_nil _ _ _ _ (fun _ => True)))); (case aS => exact (below_size (zL HB.out))); (case aL => have := LMc9.out; omega); intro v183 w12 ho hb hg hat; rw [← Ny182.out] at ho; have n0_ := am (Kd.S_after (Kd.S_apart_nil (by (with_reducible repeat (first | apply Kd.S_alloc | apply Kd.S_drewN | apply Kd.S_drew)); exact HO181.out)) hg hat); have n1_ := am (hb); have n2_ := am (ho); clear HO181 HB; have HO181 := n0_; have HB := n1_; have HO184 := n2_; clear n0_ n1_ n2_; clear ho hb hg hat; obtain ⟨Ao14, co14, eo14⟩ := Kd.R_slice HO184.out; subst eo14) | ((with_reducible refine gate_builtin (b := .append) (xs := #[.tmp 19, .tmp 22]) rfl ?_); at_builtin; refine Kd.S_append (Kd.slice 5 (Kd.int .u8)) (w0 := w) w.heap.size rfl (.tmp 19) (.tmp 22) 22 25 (.slice none 0 0) 24 rfl Try.underlying22 info25 rfl (by decide) (by omega) v180 t179 y182 [.slice Ao14 y182.length co14] (fun _ => True) (fun k_ => some k_ = (.slice Ao14 y182.length co14 : Value).ownBlock) rfl rfl ?aP (fun k_ hk_ => ((Kd.R_mono (ok' := fun k_ => ((fun _ => True)) k_ ∧ some k_ ≠ (v180 : Value).ownBlock) (Kd.R_apart' (HO184.out) (Kd.S_typed HO181.out) (by decide)) (fun k_ hk => ⟨trivial, hk.2⟩))).1 k_ hk_.symm) ?aF ?aO ?aB ?aS ?aL ?_; (case aP => exact Kd.M_row (Kd.R_mono (Kd.R_tight rfl (Kd.R_mono (ok' := fun k_ => ((fun _ => True)) k_ ∧ some k_ ≠ (v180 : Value).ownBlock) (Kd.R_apart' (HO184.out) (Kd.S_typed HO181.out) (by decide)) (fun k_ hk => ⟨trivial, hk.2⟩))) (fun _ h_ => h_))); (case aB => exact (zL HB.out)); (case aF => exact (fun _ _ => trivial)); (case aO => exact (by (with_reducible repeat (first | apply Kd.S_alloc | apply Kd.S_drewN | apply Kd.S_drew)); exact Kd.S_mono HO181.out (fun k_ hk => ⟨trivial, fun e_ => hk.2 e_⟩))); (case aS => exact (below_size (zL HB.out))); (case aL => have := LMc10.out; omega); intro v186 w13 ho hb hg hat; rw [← Ny185.out] at ho; have n0_ := am (hb); have n1_ := am (ho); clear HB HO181 HO184; have HB := n0_; have HO187 := n1_; clear n0_ n1_; clear ho hb hg hat))
      go_ret2
      exact ⟨_, by first | rfl | (simp [errW_none, errW_some] <;> rfl) | (simp [*, errW_none, errW_some] <;> rfl), by (with_reducible repeat (first | apply Kd.S_alloc | apply Kd.S_drewN | apply Kd.S_drew)); exact HO187.out, zL HB.out⟩
     ·rw [if_neg c10] at H
      exact absurd H (by simp)
    ·rw [if_neg c9] at H
     exact absurd H (by simp)
  ·replace c6 := Bool.eq_false_iff.mpr c6
   subst c6
   have H1 : (some (([] : List (List Int)), 1)) = some (r1, r2) := by rw [if_neg (show ¬ (false = true) by decide)] at H; exact H
   clear H
   have H := H1
   clear H1
   simp only [Option.some.injEq, Prod.mk.injEq] at H
   obtain ⟨rfl, rfl⟩ := H
   go_enter Try.func16, Try.ntmps16
   go_wp2_with (first | ((with_reducible refine gate_callee (f := 11) rfl ?_); refine goesL_ (some 8) rfl rfl Try.func11 (by kernel_rfl) rfl #[.slice A0 l0.length c0] rfl (by (try simp only [List.map_toArray, List.map_cons, List.map_nil]); first | done | rfl | (simp only [List.length_drop, List.length_take]; rfl)) ?_; (with_reducible refine (clusterlocksref23_Valid.calls k _ _ l0 true _ ?side1 ?side2 A3.out).mono ?_); (case side1 => exact zC HR0.out); (case side2 => exact HC0.out); rintro e w' ⟨rfl, ⟨nd, rfl⟩⟩; refine ⟨_, rfl, ?_⟩) | ((with_reducible refine gate_callee (f := 29) rfl ?_); refine goesL_ (some 12) rfl rfl Try.func29 (by kernel_rfl) rfl #[.slice A1 l1.length c1] rfl (by (try simp only [List.map_toArray, List.map_cons, List.map_nil]); first | done | rfl | (simp only [List.length_drop, List.length_take]; rfl)) ?_; (with_reducible refine (clusterlocksref23_packet.calls _ _ l1 false _ ?side1 ?side2 A5.out).mono ?_); (case side1 => exact zC HR1.out); (case side2 => exact HC1.out); rintro e w' ⟨rfl, ⟨nd, rfl⟩⟩; refine ⟨_, rfl, ?_⟩))
   go_ret2
   exact ⟨_, by first | rfl | (simp [errW_none, errW_some] <;> rfl) | (simp [*, errW_none, errW_some] <;> rfl), by first | exact Kd.S_nil _ _ _ _ _ | exact Kd.N_nil _ _ _ _ _ | exact Kd.V_nil _ _ _ _ _ | exact Kd.Q_nil _ _ _ _ _ | exact Kd.R_nil _ _ _ _ _, zL HB.out⟩
 ·replace c4 := Bool.eq_false_iff.mpr c4
  subst c4
  have H1 : (some (([] : List (List Int)), 2)) = some (r1, r2) := by rw [if_neg (show ¬ (false = true) by decide)] at H; exact H
  clear H
  have H := H1
  clear H1
  simp only [Option.some.injEq, Prod.mk.injEq] at H
  obtain ⟨rfl, rfl⟩ := H
  go_enter Try.func16, Try.ntmps16
  go_wp2_with (first | ((with_reducible refine gate_callee (f := 11) rfl ?_); refine goesL_ (some 8) rfl rfl Try.func11 (by kernel_rfl) rfl #[.slice A0 l0.length c0] rfl (by (try simp only [List.map_toArray, List.map_cons, List.map_nil]); first | done | rfl | (simp only [List.length_drop, List.length_take]; rfl)) ?_; (with_reducible refine (clusterlocksref23_Valid.calls k _ _ l0 false _ ?side1 ?side2 A3.out).mono ?_); (case side1 => exact zC HR0.out); (case side2 => exact HC0.out); rintro e w' ⟨rfl, ⟨nd, rfl⟩⟩; refine ⟨_, rfl, ?_⟩))
  go_ret2
  exact ⟨_, by first | rfl | (simp [errW_none, errW_some] <;> rfl) | (simp [*, errW_none, errW_some] <;> rfl), by first | exact Kd.S_nil _ _ _ _ _ | exact Kd.N_nil _ _ _ _ _ | exact Kd.V_nil _ _ _ _ _ | exact Kd.Q_nil _ _ _ _ _ | exact Kd.R_nil _ _ _ _ _, zL HB.out⟩

/-! ### clusterlocksref23_check: function 31 -/
def clusterlocksref23_check.f (k : Nat) (l0 : List (List Int)) (a1 : Int) : Option (Int) := (clusterlocksref23_Valid.f k l0).bind fun t188 => (if t188 = true then (if a1 < 0 then (some 1) else (if a1 ≥ (l0.length : Int) then (some 1) else (some 0))) else (some 2))
theorem clusterlocksref23_check.mono : ∀ a0 a1 k, LeO (clusterlocksref23_check.f k a0 a1) (clusterlocksref23_check.f (k + 1) a0 a1) := by
 intro a0 a1 k
 unfold clusterlocksref23_check.f
 repeat' first
   | (with_reducible exact clusterlocksref23_Valid.mono _ _)
   | (with_reducible exact LeO.refl _)
   | (with_reducible exact LeO.none _)
   | (with_reducible refine LeO.ite ?_ ?_)
   | (with_reducible refine LeO.bind ?_ (fun _ => ?_))
   | exact clusterlocksref23_Valid.mono _ _
   | exact LeO.none _
   | refine LeO.ite ?_ ?_
   | refine LeO.bind ?_ (fun _ => ?_)
set_option maxHeartbeats 8000000 in
set_option maxRecDepth 100000 in
theorem clusterlocksref23_check.calls (k : Nat) (A0 : Option Addr) (c0 : Nat) (l0 : List (List Int)) (a1 : Int) (r : Int) (w : World) (hr0 : Kd.C (Kd.slice 5 (Kd.int .u8)) w A0 l0.length l0) (hc0 : l0.length ≤ c0) (h : clusterlocksref23_check.f k l0 a1 = some r) :
  Calls Try.prog 31 #[.slice A0 l0.length c0, .int .i64 a1] w fun e w' => e = .returned (.int .i64 r) ∧ Drawn0 w w' := by
 have HR0 := Aside0.mk hr0
 have HC0 := Aside0.mk hc0
 clear hr0 hc0
 have H : ((clusterlocksref23_Valid.f k l0).bind fun t188 => (if t188 = true then (if a1 < 0 then (some 1) else (if a1 ≥ (l0.length : Int) then (some 1) else (some 0))) else (some 2))) = some r := h
 clear h
 replace H := Option.bind_eq_some_iff.mp H
 obtain ⟨t188, A30, H⟩ := H
 replace H : (if t188 = true then (if a1 < 0 then (some 1) else (if a1 ≥ (l0.length : Int) then (some 1) else (some 0))) else (some 2)) = some r := H
 have A3 := Aside0.mk A30
 clear A30
 by_cases c4 : t188 = true
 ·subst c4
  have H1 : (if a1 < 0 then (some 1) else (if a1 ≥ (l0.length : Int) then (some 1) else (some 0))) = some r := by rw [if_pos rfl] at H; exact H
  clear H
  have H := H1
  clear H1
  by_cases c5 : a1 < 0
  ·rw [if_pos c5] at H
   have c5b0 : decide (a1 < 0) = true := decide_eq_true c5
   clear c5
   obtain rfl := Option.some.inj H
   go_enter Try.func31, Try.ntmps31
   go_wp2_with (first | ((with_reducible refine gate_callee (f := 11) rfl ?_); refine goesL_ (some 6) rfl rfl Try.func11 (by kernel_rfl) rfl #[.slice A0 l0.length c0] rfl (by (try simp only [List.map_toArray, List.map_cons, List.map_nil]); first | done | rfl | (simp only [List.length_drop, List.length_take]; rfl)) ?_; (with_reducible refine (clusterlocksref23_Valid.calls k _ _ l0 true _ ?side1 ?side2 A3.out).mono ?_); (case side1 => exact zC HR0.out); (case side2 => exact HC0.out); rintro e w' ⟨rfl, ⟨nd, rfl⟩⟩; refine ⟨_, rfl, ?_⟩))
   go_ret
   exact ⟨by first | rfl | (simp; done) | (simp [*]; done), by repeat (first | exact Drawn0.refl _ | apply Drawn0.step)⟩
  ·rw [if_neg c5] at H
   have c5b0 : decide (a1 < 0) = false := decide_eq_false c5
   clear c5
   by_cases c6 : a1 ≥ (l0.length : Int)
   ·rw [if_pos c6] at H
    have c6b0 : decide ((l0.length : Int) ≤ a1) = true := decide_eq_true c6
    clear c6
    obtain rfl := Option.some.inj H
    go_enter Try.func31, Try.ntmps31
    go_wp2_with (first | ((with_reducible refine gate_callee (f := 11) rfl ?_); refine goesL_ (some 6) rfl rfl Try.func11 (by kernel_rfl) rfl #[.slice A0 l0.length c0] rfl (by (try simp only [List.map_toArray, List.map_cons, List.map_nil]); first | done | rfl | (simp only [List.length_drop, List.length_take]; rfl)) ?_; (with_reducible refine (clusterlocksref23_Valid.calls k _ _ l0 true _ ?side1 ?side2 A3.out).mono ?_); (case side1 => exact zC HR0.out); (case side2 => exact HC0.out); rintro e w' ⟨rfl, ⟨nd, rfl⟩⟩; refine ⟨_, rfl, ?_⟩))
    go_ret
    exact ⟨by first | rfl | (simp; done) | (simp [*]; done), by repeat (first | exact Drawn0.refl _ | apply Drawn0.step)⟩
   ·rw [if_neg c6] at H
    have c6b0 : decide ((l0.length : Int) ≤ a1) = false := decide_eq_false c6
    clear c6
    obtain rfl := Option.some.inj H
    go_enter Try.func31, Try.ntmps31
    go_wp2_with (first | ((with_reducible refine gate_callee (f := 11) rfl ?_); refine goesL_ (some 6) rfl rfl Try.func11 (by kernel_rfl) rfl #[.slice A0 l0.length c0] rfl (by (try simp only [List.map_toArray, List.map_cons, List.map_nil]); first | done | rfl | (simp only [List.length_drop, List.length_take]; rfl)) ?_; (with_reducible refine (clusterlocksref23_Valid.calls k _ _ l0 true _ ?side1 ?side2 A3.out).mono ?_); (case side1 => exact zC HR0.out); (case side2 => exact HC0.out); rintro e w' ⟨rfl, ⟨nd, rfl⟩⟩; refine ⟨_, rfl, ?_⟩))
    go_ret
    exact ⟨by first | rfl | (simp; done) | (simp [*]; done), by repeat (first | exact Drawn0.refl _ | apply Drawn0.step)⟩
 ·replace c4 := Bool.eq_false_iff.mpr c4
  subst c4
  have H1 : (some 2) = some r := by rw [if_neg (show ¬ (false = true) by decide)] at H; exact H
  clear H
  have H := H1
  clear H1
  obtain rfl := Option.some.inj H
  go_enter Try.func31, Try.ntmps31
  go_wp2_with (first | ((with_reducible refine gate_callee (f := 11) rfl ?_); refine goesL_ (some 6) rfl rfl Try.func11 (by kernel_rfl) rfl #[.slice A0 l0.length c0] rfl (by (try simp only [List.map_toArray, List.map_cons, List.map_nil]); first | done | rfl | (simp only [List.length_drop, List.length_take]; rfl)) ?_; (with_reducible refine (clusterlocksref23_Valid.calls k _ _ l0 false _ ?side1 ?side2 A3.out).mono ?_); (case side1 => exact zC HR0.out); (case side2 => exact HC0.out); rintro e w' ⟨rfl, ⟨nd, rfl⟩⟩; refine ⟨_, rfl, ?_⟩))
  go_ret
  exact ⟨by first | rfl | (simp; done) | (simp [*]; done), by repeat (first | exact Drawn0.refl _ | apply Drawn0.step)⟩

/-! ### clusterlocksref23_Deliver: function 17 -/
def clusterlocksref23_Deliver.f (k : Nat) (l0 : List (List Int)) (a1 : Int) : Option (List Int × (List (List Int)) × Int) := (clusterlocksref23_check.f k l0 a1).bind fun e => (if e = 0 then ((clusterlocksref23_Copy.f k l0).bind fun t => (if 0 ≤ a1 ∧ a1 < (t.length : Int) ∧ t.length < 5864062014805 then (some (rd_L1 t a1, t.take a1.toNat ++ t.drop (a1.toNat + 1), 0)) else (none))) else (some (([] : List Int), ([] : List (List Int)), e)))
theorem clusterlocksref23_Deliver.mono : ∀ a0 a1 k, LeO (clusterlocksref23_Deliver.f k a0 a1) (clusterlocksref23_Deliver.f (k + 1) a0 a1) := by
 intro a0 a1 k
 unfold clusterlocksref23_Deliver.f
 refine LeO.bind ?_ (fun _ => ?_)
 ·exact (clusterlocksref23_check.mono _ _ _)
 ·refine LeO.ite ?_ (LeO.refl _)
  exact LeO.bind (clusterlocksref23_Copy.mono _ _) (fun _ => LeO.refl _)
def clusterlocksref23_Deliver.T6 : Bool × List (List Nat × List Nat) := (true, [([], []), ([], []), ([], []), ([], []), ([1, 2, 3], [1, 2, 3]), ([], []), ([], []), ([6], [6]), ([5, 7], [5, 7]), ([4, 8], [4, 8]), ([0, 9, 0], [0]), ([9, 10, 0, 1, 2, 3, 4, 5, 6, 7, 8, 9, 10], [9]), ([11, 0, 1, 2, 3, 4, 5, 6, 7, 8, 9, 10, 11], [])])
def clusterlocksref23_Deliver.B6 : List Nat := [0, 0, 0, 0, 14, 0, 0, 64, 224, 510, 1023, 2047, 4095]
theorem clusterlocksref23_Deliver.tab6 : rtab .any (opsOf Try.f17 6) = clusterlocksref23_Deliver.T6 := by kernel_rfl
theorem clusterlocksref23_Deliver.bits6 : waitsOk clusterlocksref23_Deliver.T6.2 clusterlocksref23_Deliver.B6 = true := by kernel_rfl
set_option maxHeartbeats 8000000 in
set_option maxRecDepth 100000 in
theorem clusterlocksref23_Deliver.calls (k : Nat) (A0 : Option Addr) (c0 : Nat) (l0 : List (List Int)) (a1 : Int) (r1 : List Int) (r2 : List (List Int)) (r3 : Int) (w : World) (hr0 : Kd.C (Kd.slice 5 (Kd.int .u8)) w A0 l0.length l0) (hc0 : l0.length ≤ c0) (h : clusterlocksref23_Deliver.f k l0 a1 = some (r1, r2, r3)) :
  Calls Try.prog 17 #[.slice A0 l0.length c0, .int .i64 a1] w fun e w' => ∃ v0_ v1_ : Value, e = .returned (.tuple #[v0_, v1_, .int .i64 r3]) ∧ Kd.R (Kd.int .u8) 5 w' w.heap.size (fun k_ => (w.heap.size ≤ k_)) v0_ r1 ∧ Kd.V (Kd.slice 5 (Kd.int .u8)) 25 w' w.heap.size (fun k_ => (w.heap.size ≤ k_) ∧ some k_ ≠ (v0_ : Value).ownBlock) v1_ r2 ∧ Below w.heap.size w w' := by
 unfold clusterlocksref23_Deliver.f at h
 have HR0 := Aside0.mk hr0
 have HC0 := Aside0.mk hc0
 have HB := am (Below.refl w.heap.size w)
 clear hr0 hc0
 replace h := Option.bind_eq_some_iff.mp h
 obtain ⟨e, hce, h⟩ := h
 have A2 := Aside0.mk hce
 clear hce
 by_cases c1 : e = 0
 ·rw [if_pos c1] at h
  have c1b0 : (e == 0) = true := beq_iff_eq.mpr c1
  have c1b1 : (e != 0) = false := bne_eq_false_iff_eq.mpr c1
  clear c1
  replace h := Option.bind_eq_some_iff.mp h
  obtain ⟨t, hcp, h⟩ := h
  have A3 := Aside0.mk hcp
  clear hcp
  by_cases c2 : 0 ≤ a1 ∧ a1 < (t.length : Int) ∧ t.length < 5864062014805
  ·rw [if_pos c2] at h
   simp only [Option.some.injEq, Prod.mk.injEq] at h
   obtain ⟨rfl, rfl, rfl⟩ := h
   have HI := Aside0.mk c2
   have hp := c2.1
   have hq := c2.2.1
   have hJ : wrap64 (a1 + 1) = a1 + 1 := by have := c2; unfold wrap64; omega
   obtain ⟨i0, hi0, _, hsz, _⟩ := info_parts info25
   clear c2
   go_enter Try.func17, Try.ntmps17
   go_wp2_with (first | ((with_reducible refine gate_callee (f := 31) rfl ?_); refine goesL_ (some 12) rfl rfl Try.func31 (by kernel_rfl) rfl #[.slice A0 l0.length c0, .int .i64 a1] rfl (by (try simp only [List.map_toArray, List.map_cons, List.map_nil]); first | done | rfl) ?_; (with_reducible refine (clusterlocksref23_check.calls k _ _ l0 a1 e _ ?side1 ?side2 A2.out).mono ?_); (case side1 => exact zC HR0.out); (case side2 => exact HC0.out); rintro e w' ⟨rfl, ⟨nd, rfl⟩⟩; refine ⟨_, rfl, ?_⟩) | ((with_reducible refine gate_callee (f := 12) rfl ?_); refine goesL_ (some 17) rfl rfl Try.func12 (by kernel_rfl) rfl #[.slice A0 l0.length c0] rfl (by (try simp only [List.map_toArray, List.map_cons, List.map_nil]); first | done | rfl) ?_; (with_reducible refine (clusterlocksref23_Copy.calls k _ _ l0 t _ ?side1 ?side2 A3.out).mono ?_); (case side1 => exact zC HR0.out); (case side2 => exact HC0.out); rintro e w5 ⟨v5, rfl, hS, hb⟩; refine ⟨_, rfl, ?_⟩; have n0_ := am (Kd.S_lower hS (below_size (zL HB.out))); have n1_ := am (below_step (zL HB.out) hb); clear HB hS hb; have HS := n0_; have HB := n1_; clear n0_ n1_; obtain ⟨g, cap, eo, gb, gl, cl, hcl⟩ := Kd.S_form HS.out (by have := HI.out; omega); subst eo; clear gb gl hcl; obtain ⟨oki, ce, hcl2, hM, hcc, hfr, hoo, hH⟩ := Kd.S_elem HS.out [] a1 hp hq; obtain ⟨ve, rfl, ge⟩ := hM; have hx := hcc 0 _ rfl; (try simp only [show ((Kd.slice 5 (Kd.int .u8))).sz = 1 from rfl, Nat.mul_one, Nat.add_zero] at hx); clear hcl2 hcc hfr hoo hH ge; have hcut1 := Xw.cut_to3 (P := Try.prog) 22 25 .i64 .i64 Try.underlying22 hi0 (some ⟨g, 0, none⟩) t.length cap a1 hp (by omega) (Kd.S_reads' HS.out).2.1; have hcut2 := cut_from (P := Try.prog) 22 25 .i64 Try.underlying22 hi0 1 hsz (some ⟨g, 0, none⟩) t.length cap (a1 + 1) (by omega) (by omega); rw [show (a1 + 1).toNat = a1.toNat + 1 by omega] at hcut2; have hpT := eq_true hp; have hqT := eq_true hq; clear hp hq))
   refine start_ (n := 13) (S := fun w' => w'.cell? ⟨g, a1.toNat, none⟩ = some ve) (ds := []) #[false, false, false, false, false, false, false, false, false, false, false, false, false] (by kernel_rfl) rfl rfl hx (fun hHeld => ?_)
   refine with_tabW clusterlocksref23_Deliver.tab6 clusterlocksref23_Deliver.bits6 (fun HT_ HW_ => ?_)
   refine pure_ (i := 0) (N := some 22) (v := ?_) (a' := ?_) #[true, false, false, false, false, false, false, false, false, false, false, false, false] rfl rfl (any_of HT_.out (by kernel_rfl)) (fun _ _ _ h => h) (Or.inl ⟨by rfl, ?_⟩) ?_ ?_
   rotate_left
   ·intro w'
    go_simp
    with_reducible rfl
   rotate_left
   ·simp only [Act.put, List.setIfInBounds_toArray, List.set_cons_zero, List.set_cons_succ, i64_w, i32_w]
    rfl
   refine pure_ (i := 1) (N := some 23) (v := ?_) (a' := ?_) #[true, true, false, false, false, false, false, false, false, false, false, false, false] rfl rfl (any_of HT_.out (by kernel_rfl)) (fun _ _ _ h => h) (Or.inl ⟨by rfl, ?_⟩) ?_ ?_
   rotate_left
   ·intro w'
    go_simp
    with_reducible rfl
   rotate_left
   ·simp only [Act.put, List.setIfInBounds_toArray, List.set_cons_zero, List.set_cons_succ, i64_w, i32_w]
    rfl
   refine pure_ (i := 2) (N := some 24) (v := ?_) (a' := ?_) #[true, true, true, false, false, false, false, false, false, false, false, false, false] rfl rfl (any_of HT_.out (by kernel_rfl)) (fun _ _ _ h => h) (Or.inl ⟨by rfl, ?_⟩) ?_ ?_
   rotate_left
   ·intro w'
    go_simp
    with_reducible rfl
   rotate_left
   ·simp only [Act.put, List.setIfInBounds_toArray, List.set_cons_zero, List.set_cons_succ, i64_w, i32_w]
    rfl
   refine pure_ (i := 3) (N := some 25) (v := ?_) (a' := ?_) #[true, true, true, true, false, false, false, false, false, false, false, false, false] rfl rfl (any_of HT_.out (by kernel_rfl)) (fun _ _ _ h => h) (Or.inl ⟨by rfl, ?_⟩) ?_ ?_
   rotate_left
   ·intro w'
    go_simp
    with_reducible rfl
   rotate_left
   ·simp only [Act.put, List.setIfInBounds_toArray, List.set_cons_zero, List.set_cons_succ, i64_w, i32_w]
    rfl
   refine pure_ (i := 4) (N := some 26) (v := ?_) (a' := ?_) #[true, true, true, true, true, false, false, false, false, false, false, false, false] rfl rfl (any_of HT_.out (by kernel_rfl)) (fun _ _ _ h => h) (Or.inl ⟨by rfl, ?_⟩) ?_ ?_
   rotate_left
   ·intro w'
    go_simp
    with_reducible rfl
   rotate_left
   ·simp only [Act.put, List.setIfInBounds_toArray, List.set_cons_zero, List.set_cons_succ, i64_w, i32_w]
    rfl
   refine pure_ (i := 5) (N := some 27) (v := ?_) (a' := ?_) #[true, true, true, true, true, true, false, false, false, false, false, false, false] rfl rfl (any_of HT_.out (by kernel_rfl)) (fun _ _ _ h => h) (Or.inl ⟨by rfl, ?_⟩) ?_ ?_
   rotate_left
   ·intro w'
    go_simp
    with_reducible rfl
   rotate_left
   ·simp only [Act.put, List.setIfInBounds_toArray, List.set_cons_zero, List.set_cons_succ, i64_w, i32_w]
    rfl
   refine pure_ (i := 6) (N := some 28) (v := ?_) (a' := ?_) #[true, true, true, true, true, true, true, false, false, false, false, false, false] rfl rfl (any_of HT_.out (by kernel_rfl)) (fun _ _ _ h => h) (Or.inl ⟨by rfl, ?_⟩) ?_ ?_
   rotate_left
   ·intro w'
    go_simp
    with_reducible rfl
   rotate_left
   ·simp only [Act.put, List.setIfInBounds_toArray, List.set_cons_zero, List.set_cons_succ, i64_w, i32_w]
    rfl
   refine pure_ (i := 7) (N := some 29) (v := ?_) (a' := ?_) #[true, true, true, true, true, true, true, true, false, false, false, false, false] rfl rfl (any_of HT_.out (by kernel_rfl)) (fun _ _ _ h => h) (Or.inl ⟨by rfl, ?_⟩) ?_ ?_
   rotate_left
   ·intro w'
    go_simp
    with_reducible rfl
   rotate_left
   ·simp only [Act.put, List.setIfInBounds_toArray, List.set_cons_zero, List.set_cons_succ, i64_w, i32_w]
    rfl
   refine pure_ (i := 8) (N := some 30) (v := ?_) (a' := ?_) #[true, true, true, true, true, true, true, true, true, false, false, false, false] rfl rfl (any_of HT_.out (by kernel_rfl)) (fun _ _ _ h => h) (Or.inl ⟨by rfl, ?_⟩) ?_ ?_
   rotate_left
   ·intro w'
    go_simp
    with_reducible rfl
   rotate_left
   ·simp only [Act.put, List.setIfInBounds_toArray, List.set_cons_zero, List.set_cons_succ, i64_w, i32_w]
    rfl
   refine one_ (i := 9) (N := some 31) #[true, true, true, true, true, true, true, true, true, true, false, false, false] rfl rfl (one_of HT_.out (by kernel_rfl)) (by decide) (fun K hK => ?_)
   refine Xw.deliver_append_step 22 25 5 (Kd.int .u8) 24 rfl (.tmp 26) (.tmp 30) rfl Try.underlying22 info25 (by decide) (i := a1.toNat) (ve := ve) HS.out ?hi ?hc rfl rfl ?hA ?hl ?_
   (case hi => have := HI.out; omega)
   (case hc => exact hHeld)
   (case hA => simp [Addr.add])
   (case hl => have := HI.out; omega)
   intro v1 w9 hR hV hg
   have HR9 := am hR
   have HV9 := am hV
   have hb9 := (Below.refl _ _).grown hg (Nat.le_refl _) (by simp)
   have n0_ := am (below_step (zL HB.out) hb9)
   clear hR hV HB
   have HB := n0_
   clear n0_
   refine hK.out _ _ ((hb9.cell (World.block_lt_of_cell? _ _ hHeld)).trans hHeld) (fun hHeld => ?_)
   clear hb9 hg
   clear hK K
   refine norm_ (a' := ?_) ?_ ?_
   rotate_left
   ·show Act.put _ (some 31) _ = _
    simp only [Act.put, List.setIfInBounds_toArray, List.set_cons_zero, List.set_cons_succ, i64_w, i32_w]
    rfl
   refine pure_ (i := 10) (N := some 4) (v := ?_) (a' := ?_) #[true, true, true, true, true, true, true, true, true, true, true, false, false] rfl rfl (any_of HT_.out (by kernel_rfl)) (fun _ _ _ h => h) (Or.inl ⟨by rfl, ?_⟩) ?_ ?_
   rotate_left
   ·intro w'
    go_simp
    with_reducible rfl
   rotate_left
   ·simp only [Act.put, List.setIfInBounds_toArray, List.set_cons_zero, List.set_cons_succ, i64_w, i32_w]
    rfl
   refine pure_ (i := 11) (N := some 5) (v := ?_) (a' := ?_) #[true, true, true, true, true, true, true, true, true, true, true, true, false] rfl rfl (any_of HT_.out (by kernel_rfl)) (fun _ _ _ h => h) (Or.inl ⟨by rfl, ?_⟩) ?_ ?_
   rotate_left
   ·intro w'
    go_simp
    with_reducible rfl
   rotate_left
   ·simp only [Act.put, List.setIfInBounds_toArray, List.set_cons_zero, List.set_cons_succ, i64_w, i32_w]
    rfl
   refine pure_ (i := 12) (N := some 6) (v := ?_) (a' := ?_) #[true, true, true, true, true, true, true, true, true, true, true, true, true] rfl rfl (any_of HT_.out (by kernel_rfl)) (fun _ _ _ h => h) (Or.inl ⟨by rfl, ?_⟩) ?_ ?_
   rotate_left
   ·intro w'
    go_simp
    with_reducible rfl
   rotate_left
   ·simp only [Act.put, List.setIfInBounds_toArray, List.set_cons_zero, List.set_cons_succ, i64_w, i32_w]
    rfl
   refine done_ (done_of HT_.out (by kernel_rfl)) ?_
   all_goals (try go_wp2)
   all_goals go_ret3
   all_goals exact ⟨_, _, rfl, HR9.out, HV9.out, zL HB.out⟩
  ·rw [if_neg c2] at h; cases h
 ·rw [if_neg c1] at h
  have c1b0 : (e == 0) = false := beq_eq_false_iff_ne.mpr c1
  have c1b1 : (e != 0) = true := bne_iff_ne.mpr c1
  clear c1
  simp only [Option.some.injEq, Prod.mk.injEq] at h
  obtain ⟨rfl, rfl, rfl⟩ := h
  go_enter Try.func17, Try.ntmps17
  go_wp2_with (first | ((with_reducible refine gate_callee (f := 31) rfl ?_); refine goesL_ (some 12) rfl rfl Try.func31 (by kernel_rfl) rfl #[.slice A0 l0.length c0, .int .i64 a1] rfl (by (try simp only [List.map_toArray, List.map_cons, List.map_nil]); first | done | rfl) ?_; (with_reducible refine (clusterlocksref23_check.calls k _ _ l0 a1 e _ ?side1 ?side2 A2.out).mono ?_); (case side1 => exact zC HR0.out); (case side2 => exact HC0.out); rintro e w' ⟨rfl, ⟨nd, rfl⟩⟩; refine ⟨_, rfl, ?_⟩))
  go_ret3
  exact ⟨_, _, rfl, Kd.R_nil _ _ _ _ _, Kd.V_nil _ _ _ _ _, zL HB.out⟩


/-! ### channel_Lose: function 18 -/
def channel_Lose.f (k : Nat) (l0 : List (List Int)) (a1 : Int) : Option ((List (List Int)) × Int) := (channel_Deliver.f k l0 a1).bind fun bt189 => (some (bt189.2.1, bt189.2.2))
theorem channel_Lose.mono : ∀ a0 a1 k, LeO (channel_Lose.f k a0 a1) (channel_Lose.f (k + 1) a0 a1) := by
 intro a0 a1 k
 unfold channel_Lose.f
 repeat' first
   | (with_reducible exact channel_Deliver.mono _ _ _)
   | (with_reducible exact LeO.refl _)
   | (with_reducible exact LeO.none _)
   | (with_reducible refine LeO.ite ?_ ?_)
   | (with_reducible refine LeO.bind ?_ (fun _ => ?_))
   | exact channel_Deliver.mono _ _ _
   | exact LeO.none _
   | refine LeO.ite ?_ ?_
   | refine LeO.bind ?_ (fun _ => ?_)
set_option maxHeartbeats 8000000 in
set_option maxRecDepth 100000 in
theorem channel_Lose.calls (k : Nat) (A0 : Option Addr) (c0 : Nat) (l0 : List (List Int)) (a1 : Int) (r1 : List (List Int)) (r2 : Int) (w : World) (hr0 : Kd.C (Kd.slice 5 (Kd.int .u8)) w A0 l0.length l0) (hc0 : l0.length ≤ c0) (h : channel_Lose.f k l0 a1 = some (r1, r2)) :
  Calls Try.prog 18 #[.slice A0 l0.length c0, .int .i64 a1] w fun e w' => ∃ v0_ : Value, e = .returned (.tuple #[v0_, .int .i64 r2]) ∧ Kd.V (Kd.slice 5 (Kd.int .u8)) 25 w' w.heap.size (fun k_ => (w.heap.size ≤ k_)) v0_ r1 ∧ Below w.heap.size w w' := by
 have HR0 := Aside0.mk hr0
 have HC0 := Aside0.mk hc0
 clear hr0 hc0
 have HB := am (Below.refl w.heap.size w)
 have H : ((channel_Deliver.f k l0 a1).bind fun bt189 => (some (bt189.2.1, bt189.2.2))) = some (r1, r2) := h
 clear h
 replace H := Option.bind_eq_some_iff.mp H
 obtain ⟨⟨t189, t192, t195⟩, A30, H⟩ := H
 replace H : (some (t192, t195)) = some (r1, r2) := H
 have A3 := Aside0.mk A30
 clear A30
 simp only [Option.some.injEq, Prod.mk.injEq] at H
 obtain ⟨rfl, rfl⟩ := H
 go_enter Try.func18, Try.ntmps18
 go_wp2_with (first | ((with_reducible refine gate_callee (f := 10) rfl ?_); refine goesL_ (some 12) rfl rfl Try.func10 (by kernel_rfl) rfl #[.slice A0 l0.length c0, .int .i64 a1] rfl (by (try simp only [List.map_toArray, List.map_cons, List.map_nil]); first | done | rfl | (simp only [List.length_drop, List.length_take]; rfl)) ?_; (with_reducible refine (channel_Deliver.calls k _ _ l0 a1 t189 t192 t195 _ ?side1 ?side2 A3.out).mono ?_); (case side1 => exact zC HR0.out); (case side2 => exact HC0.out); rintro e w4 ⟨v190, v193, rfl, ho0, ho1, hb⟩; refine ⟨_, rfl, ?_⟩; have n0_ := am (Kd.R_lower (Kd.R_newM (M := fun k_ => (w.heap.size ≤ k_)) (Kd.R_mono (ok' := fun k_ => True) ho0 (fun _ hk_ => trivial)) (below_size (zL HB.out)) (fun k_ h_ => h_)) (below_size (zL HB.out))); have n1_ := am (Kd.V_lower (Kd.V_mono (ok' := fun k_ => (w.heap.size ≤ k_) ∧ some k_ ≠ (v190 : Value).ownBlock) ho1 (fun k_ hk_ => ⟨(Nat.le_trans (below_size (zL HB.out)) hk_.1), hk_.2⟩)) (below_size (zL HB.out))); have n2_ := am (below_step (zL HB.out) hb); clear HB; have HO191 := n0_; have HO194 := n1_; have HB := n2_; clear n0_ n1_ n2_; (try clear hb); (try clear hb2); (try clear hk); (try clear hi); (try clear ho0); (try clear ho1)))
 go_ret2
 exact ⟨_, by first | rfl | (simp [errW_none, errW_some] <;> rfl) | (simp [*, errW_none, errW_some] <;> rfl), by (with_reducible repeat (first | apply Kd.V_alloc | apply Kd.V_drewN | apply Kd.V_drew)); exact Kd.V_mono HO194.out (fun _ hk => hk.1), zL HB.out⟩

/-! ### clusterlocksref23_Lose: function 19 -/
def clusterlocksref23_Lose.f (k : Nat) (l0 : List (List Int)) (a1 : Int) : Option ((List (List Int)) × Int) := (clusterlocksref23_Deliver.f k l0 a1).bind fun bt196 => (some (bt196.2.1, bt196.2.2))
theorem clusterlocksref23_Lose.mono : ∀ a0 a1 k, LeO (clusterlocksref23_Lose.f k a0 a1) (clusterlocksref23_Lose.f (k + 1) a0 a1) := by
 intro a0 a1 k
 unfold clusterlocksref23_Lose.f
 repeat' first
   | (with_reducible exact clusterlocksref23_Deliver.mono _ _ _)
   | (with_reducible exact LeO.refl _)
   | (with_reducible exact LeO.none _)
   | (with_reducible refine LeO.ite ?_ ?_)
   | (with_reducible refine LeO.bind ?_ (fun _ => ?_))
   | exact clusterlocksref23_Deliver.mono _ _ _
   | exact LeO.none _
   | refine LeO.ite ?_ ?_
   | refine LeO.bind ?_ (fun _ => ?_)
set_option maxHeartbeats 8000000 in
set_option maxRecDepth 100000 in
theorem clusterlocksref23_Lose.calls (k : Nat) (A0 : Option Addr) (c0 : Nat) (l0 : List (List Int)) (a1 : Int) (r1 : List (List Int)) (r2 : Int) (w : World) (hr0 : Kd.C (Kd.slice 5 (Kd.int .u8)) w A0 l0.length l0) (hc0 : l0.length ≤ c0) (h : clusterlocksref23_Lose.f k l0 a1 = some (r1, r2)) :
  Calls Try.prog 19 #[.slice A0 l0.length c0, .int .i64 a1] w fun e w' => ∃ v0_ : Value, e = .returned (.tuple #[v0_, .int .i64 r2]) ∧ Kd.V (Kd.slice 5 (Kd.int .u8)) 25 w' w.heap.size (fun k_ => (w.heap.size ≤ k_)) v0_ r1 ∧ Below w.heap.size w w' := by
 have HR0 := Aside0.mk hr0
 have HC0 := Aside0.mk hc0
 clear hr0 hc0
 have HB := am (Below.refl w.heap.size w)
 have H : ((clusterlocksref23_Deliver.f k l0 a1).bind fun bt196 => (some (bt196.2.1, bt196.2.2))) = some (r1, r2) := h
 clear h
 replace H := Option.bind_eq_some_iff.mp H
 obtain ⟨⟨t196, t199, t202⟩, A30, H⟩ := H
 replace H : (some (t199, t202)) = some (r1, r2) := H
 have A3 := Aside0.mk A30
 clear A30
 simp only [Option.some.injEq, Prod.mk.injEq] at H
 obtain ⟨rfl, rfl⟩ := H
 go_enter Try.func19, Try.ntmps19
 go_wp2_with (first | ((with_reducible refine gate_callee (f := 17) rfl ?_); refine goesL_ (some 12) rfl rfl Try.func17 (by kernel_rfl) rfl #[.slice A0 l0.length c0, .int .i64 a1] rfl (by (try simp only [List.map_toArray, List.map_cons, List.map_nil]); first | done | rfl | (simp only [List.length_drop, List.length_take]; rfl)) ?_; (with_reducible refine (clusterlocksref23_Deliver.calls k _ _ l0 a1 t196 t199 t202 _ ?side1 ?side2 A3.out).mono ?_); (case side1 => exact zC HR0.out); (case side2 => exact HC0.out); rintro e w4 ⟨v197, v200, rfl, ho0, ho1, hb⟩; refine ⟨_, rfl, ?_⟩; have n0_ := am (Kd.R_lower (Kd.R_newM (M := fun k_ => (w.heap.size ≤ k_)) (Kd.R_mono (ok' := fun k_ => True) ho0 (fun _ hk_ => trivial)) (below_size (zL HB.out)) (fun k_ h_ => h_)) (below_size (zL HB.out))); have n1_ := am (Kd.V_lower (Kd.V_mono (ok' := fun k_ => (w.heap.size ≤ k_) ∧ some k_ ≠ (v197 : Value).ownBlock) ho1 (fun k_ hk_ => ⟨(Nat.le_trans (below_size (zL HB.out)) hk_.1), hk_.2⟩)) (below_size (zL HB.out))); have n2_ := am (below_step (zL HB.out) hb); clear HB; have HO198 := n0_; have HO201 := n1_; have HB := n2_; clear n0_ n1_ n2_; (try clear hb); (try clear hb2); (try clear hk); (try clear hi); (try clear ho0); (try clear ho1)))
 go_ret2
 exact ⟨_, by first | rfl | (simp [errW_none, errW_some] <;> rfl) | (simp [*, errW_none, errW_some] <;> rfl), by (with_reducible repeat (first | apply Kd.V_alloc | apply Kd.V_drewN | apply Kd.V_drew)); exact Kd.V_mono HO201.out (fun _ hk => hk.1), zL HB.out⟩

/-! ### clusterlocksref23_Double: function 20 -/
def clusterlocksref23_Double.f (k : Nat) (l0 : List (List Int)) (a1 : Int) : Option ((List (List Int)) × Int) := (clusterlocksref23_check.f k l0 a1).bind fun t203 => (if t203 = 0 then (if 0 ≤ a1 then (if a1 < (l0.length : Int) then ((clusterlocksref23_Send.f k l0 (rd_L1 l0 a1)).bind fun bt205 => (some (bt205.1, bt205.2))) else (none)) else (none)) else (some (([] : List (List Int)), t203)))
theorem clusterlocksref23_Double.mono : ∀ a0 a1 k, LeO (clusterlocksref23_Double.f k a0 a1) (clusterlocksref23_Double.f (k + 1) a0 a1) := by
 intro a0 a1 k
 unfold clusterlocksref23_Double.f
 repeat' first
   | (with_reducible exact clusterlocksref23_Send.mono _ _ _)
   | (with_reducible exact clusterlocksref23_check.mono _ _ _)
   | (with_reducible exact LeO.refl _)
   | (with_reducible exact LeO.none _)
   | (with_reducible refine LeO.ite ?_ ?_)
   | (with_reducible refine LeO.bind ?_ (fun _ => ?_))
   | exact clusterlocksref23_Send.mono _ _ _
   | exact clusterlocksref23_check.mono _ _ _
   | exact LeO.none _
   | refine LeO.ite ?_ ?_
   | refine LeO.bind ?_ (fun _ => ?_)
set_option maxHeartbeats 8000000 in
set_option maxRecDepth 100000 in
theorem clusterlocksref23_Double.calls (k : Nat) (A0 : Option Addr) (c0 : Nat) (l0 : List (List Int)) (a1 : Int) (r1 : List (List Int)) (r2 : Int) (w : World) (hr0 : Kd.C (Kd.slice 5 (Kd.int .u8)) w A0 l0.length l0) (hc0 : l0.length ≤ c0) (h : clusterlocksref23_Double.f k l0 a1 = some (r1, r2)) :
  Calls Try.prog 20 #[.slice A0 l0.length c0, .int .i64 a1] w fun e w' => ∃ v0_ : Value, e = .returned (.tuple #[v0_, .int .i64 r2]) ∧ Kd.S (Kd.slice 5 (Kd.int .u8)) 25 w' w.heap.size (fun _ => True) v0_ r1 ∧ Below w.heap.size w w' := by
 have HR0 := Aside0.mk hr0
 have HC0 := Aside0.mk hc0
 clear hr0 hc0
 have HB := am (Below.refl w.heap.size w)
 have H : ((clusterlocksref23_check.f k l0 a1).bind fun t203 => (if t203 = 0 then (if 0 ≤ a1 then (if a1 < (l0.length : Int) then ((clusterlocksref23_Send.f k l0 (rd_L1 l0 a1)).bind fun bt205 => (some (bt205.1, bt205.2))) else (none)) else (none)) else (some (([] : List (List Int)), t203)))) = some (r1, r2) := h
 clear h
 replace H := Option.bind_eq_some_iff.mp H
 obtain ⟨t203, A30, H⟩ := H
 replace H : (if t203 = 0 then (if 0 ≤ a1 then (if a1 < (l0.length : Int) then ((clusterlocksref23_Send.f k l0 (rd_L1 l0 a1)).bind fun bt205 => (some (bt205.1, bt205.2))) else (none)) else (none)) else (some (([] : List (List Int)), t203))) = some (r1, r2) := H
 have A3 := Aside0.mk A30
 clear A30
 by_cases c4 : t203 = 0
 ·rw [if_pos c4] at H
  have c4b0 : (t203 == 0) = true := beq_iff_eq.mpr c4
  have c4b1 : (t203 != 0) = false := bne_eq_false_iff_eq.mpr c4
  clear c4
  by_cases c5 : 0 ≤ a1
  ·rw [if_pos c5] at H
   have c5b0 : decide (0 ≤ a1) = true := decide_eq_true c5
   clear c5
   by_cases c6 : a1 < (l0.length : Int)
   ·rw [if_pos c6] at H
    have c6b0 : decide (a1 < (l0.length : Int)) = true := decide_eq_true c6
    clear c6
    replace H := Option.bind_eq_some_iff.mp H
    obtain ⟨⟨t205, t206⟩, A70, H⟩ := H
    replace H : (some (t205, t206)) = some (r1, r2) := H
    have A7 := Aside0.mk A70
    clear A70
    simp only [Option.some.injEq, Prod.mk.injEq] at H
    obtain ⟨rfl, rfl⟩ := H
    go_enter Try.func20, Try.ntmps20
    go_wp2_with (first | ((with_reducible refine gate_callee (f := 31) rfl ?_); refine goesL_ (some 9) rfl rfl Try.func31 (by kernel_rfl) rfl #[.slice A0 l0.length c0, .int .i64 a1] rfl (by (try simp only [List.map_toArray, List.map_cons, List.map_nil]); first | done | rfl | (simp only [List.length_drop, List.length_take]; rfl)) ?_; (with_reducible refine (clusterlocksref23_check.calls k _ _ l0 a1 t203 _ ?side1 ?side2 A3.out).mono ?_); (case side1 => exact zC HR0.out); (case side2 => exact HC0.out); rintro e w' ⟨rfl, ⟨nd, rfl⟩⟩; refine ⟨_, rfl, ?_⟩; have p204 : 0 ≤ (a1 : Int) := of_decide_eq_true (by first | (with_reducible assumption) | assumption); have q204 : a1 < (l0.length : Int) := of_decide_eq_true (by first | (with_reducible assumption) | assumption); obtain ⟨ad204, A204_0, c204_0, e204, hx204_0, hl204_0, hi204_0⟩ := at_L1 HR0.out a1 p204 q204; cases e204; have HR204_0 := Aside0.mk hi204_0; have HC204_0 := Aside0.mk hl204_0; clear hi204_0 hl204_0; replace p204 := eq_true p204; replace q204 := eq_true q204) | ((with_reducible refine gate_callee (f := 16) rfl ?_); refine goesL_ (some 18) rfl rfl Try.func16 (by kernel_rfl) rfl #[.slice (some ad204) l0.length c0, .slice A204_0 (rd_L1 l0 a1).length c204_0] rfl (by (try simp only [List.map_toArray, List.map_cons, List.map_nil]); first | done | rfl | (simp only [List.length_drop, List.length_take]; rfl)) ?_; (with_reducible refine (clusterlocksref23_Send.calls k _ _ l0 _ _ (rd_L1 l0 a1) t205 t206 _ ?side1 ?side2 ?side3 ?side4 A7.out).mono ?_); (case side1 => exact zC HR0.out); (case side2 => exact HC0.out); (case side3 => exact zC HR204_0.out); (case side4 => exact HC204_0.out); rintro e w8 ⟨v207, rfl, ho0, hb⟩; refine ⟨_, rfl, ?_⟩; have n0_ := am (Kd.S_lower ho0 (below_size (zL HB.out))); have n1_ := am (below_step (zL HB.out) hb); clear HB; have HO208 := n0_; have HB := n1_; clear n0_ n1_; (try clear hb); (try clear hb2); (try clear hk); (try clear hi); (try clear ho0)))
    go_ret2
    exact ⟨_, by first | rfl | (simp [errW_none, errW_some] <;> rfl) | (simp [*, errW_none, errW_some] <;> rfl), by (with_reducible repeat (first | apply Kd.S_alloc | apply Kd.S_drewN | apply Kd.S_drew)); exact HO208.out, zL HB.out⟩
   ·rw [if_neg c6] at H
    exact absurd H (by simp)
  ·rw [if_neg c5] at H
   exact absurd H (by simp)
 ·rw [if_neg c4] at H
  have c4b0 : (t203 == 0) = false := beq_eq_false_iff_ne.mpr c4
  have c4b1 : (t203 != 0) = true := bne_iff_ne.mpr c4
  simp only [Option.some.injEq, Prod.mk.injEq] at H
  obtain ⟨rfl, rfl⟩ := H
  go_enter Try.func20, Try.ntmps20
  go_wp2_with (first | ((with_reducible refine gate_callee (f := 31) rfl ?_); refine goesL_ (some 9) rfl rfl Try.func31 (by kernel_rfl) rfl #[.slice A0 l0.length c0, .int .i64 a1] rfl (by (try simp only [List.map_toArray, List.map_cons, List.map_nil]); first | done | rfl | (simp only [List.length_drop, List.length_take]; rfl)) ?_; (with_reducible refine (clusterlocksref23_check.calls k _ _ l0 a1 t203 _ ?side1 ?side2 A3.out).mono ?_); (case side1 => exact zC HR0.out); (case side2 => exact HC0.out); rintro e w' ⟨rfl, ⟨nd, rfl⟩⟩; refine ⟨_, rfl, ?_⟩))
  go_ret2
  exact ⟨_, by first | rfl | (simp [errW_none, errW_some] <;> rfl) | (simp [*, errW_none, errW_some] <;> rfl), by first | exact Kd.S_nil _ _ _ _ _ | exact Kd.N_nil _ _ _ _ _ | exact Kd.V_nil _ _ _ _ _ | exact Kd.Q_nil _ _ _ _ _ | exact Kd.R_nil _ _ _ _ _, zL HB.out⟩

/-! ### clusterlocksref23_Spoil: function 21 -/
def clusterlocksref23_Spoil.f (k : Nat) (l0 : List (List Int)) (a1 : Int) (a2 : Int) (a3 : Int) : Option ((List (List Int)) × Int) := (clusterlocksref23_check.f k l0 a1).bind fun t209 => (if t209 = 0 then ((clusterlocksref23_Copy.f k l0).bind fun t210 => (if 0 ≤ a1 then (if a1 < (t210.length : Int) then (if ((rd_L1 t210 a1).length : Int) = 0 then (none) else (if (Int.tmod a2 ((rd_L1 t210 a1).length : Int)) < 0 then (if 0 ≤ (wrap64 ((Int.tmod a2 ((rd_L1 t210 a1).length : Int)) + ((rd_L1 t210 a1).length : Int))) then (if (wrap64 ((Int.tmod a2 ((rd_L1 t210 a1).length : Int)) + ((rd_L1 t210 a1).length : Int))) < ((rd_L1 t210 a1).length : Int) then (some ((t210.set (a1 : Int).toNat ((rd_L1 t210 a1).set ((wrap64 ((Int.tmod a2 ((rd_L1 t210 a1).length : Int)) + ((rd_L1 t210 a1).length : Int))) : Int).toNat (Go.bits .xor .u8 (rd (rd_L1 t210 a1) (wrap64 ((Int.tmod a2 ((rd_L1 t210 a1).length : Int)) + ((rd_L1 t210 a1).length : Int)))) ((a3) % 256)))), 0)) else (none)) else (none)) else (if 0 ≤ (Int.tmod a2 ((rd_L1 t210 a1).length : Int)) then (if (Int.tmod a2 ((rd_L1 t210 a1).length : Int)) < ((rd_L1 t210 a1).length : Int) then (some ((t210.set (a1 : Int).toNat ((rd_L1 t210 a1).set ((Int.tmod a2 ((rd_L1 t210 a1).length : Int)) : Int).toNat (Go.bits .xor .u8 (rd (rd_L1 t210 a1) (Int.tmod a2 ((rd_L1 t210 a1).length : Int))) ((a3) % 256)))), 0)) else (none)) else (none)))) else (none)) else (none))) else (some (([] : List (List Int)), t209)))
theorem clusterlocksref23_Spoil.mono : ∀ a0 a1 a2 a3 k, LeO (clusterlocksref23_Spoil.f k a0 a1 a2 a3) (clusterlocksref23_Spoil.f (k + 1) a0 a1 a2 a3) := by
 intro a0 a1 a2 a3 k
 unfold clusterlocksref23_Spoil.f
 repeat' first
   | (with_reducible exact clusterlocksref23_Copy.mono _ _)
   | (with_reducible exact clusterlocksref23_check.mono _ _ _)
   | (with_reducible exact LeO.refl _)
   | (with_reducible exact LeO.none _)
   | (with_reducible refine LeO.ite ?_ ?_)
   | (with_reducible refine LeO.bind ?_ (fun _ => ?_))
   | exact clusterlocksref23_Copy.mono _ _
   | exact clusterlocksref23_check.mono _ _ _
   | exact LeO.none _
   | refine LeO.ite ?_ ?_
   | refine LeO.bind ?_ (fun _ => ?_)
set_option maxHeartbeats 8000000 in
set_option maxRecDepth 100000 in
theorem clusterlocksref23_Spoil.calls (k : Nat) (A0 : Option Addr) (c0 : Nat) (l0 : List (List Int)) (a1 : Int) (a2 : Int) (a3 : Int) (r1 : List (List Int)) (r2 : Int) (w : World) (hr0 : Kd.C (Kd.slice 5 (Kd.int .u8)) w A0 l0.length l0) (hc0 : l0.length ≤ c0) (h : clusterlocksref23_Spoil.f k l0 a1 a2 a3 = some (r1, r2)) :
  Calls Try.prog 21 #[.slice A0 l0.length c0, .int .i64 a1, .int .i64 a2, .int .i64 a3] w fun e w' => ∃ v0_ : Value, e = .returned (.tuple #[v0_, .int .i64 r2]) ∧ Kd.S (Kd.slice 5 (Kd.int .u8)) 25 w' w.heap.size (fun _ => True) v0_ r1 ∧ Below w.heap.size w w' := by
 have HR0 := Aside0.mk hr0
 have HC0 := Aside0.mk hc0
 clear hr0 hc0
 have HB := am (Below.refl w.heap.size w)
 have H : ((clusterlocksref23_check.f k l0 a1).bind fun t209 => (if t209 = 0 then ((clusterlocksref23_Copy.f k l0).bind fun t210 => (if 0 ≤ a1 then (if a1 < (t210.length : Int) then (if ((rd_L1 t210 a1).length : Int) = 0 then (none) else (if (Int.tmod a2 ((rd_L1 t210 a1).length : Int)) < 0 then (if 0 ≤ (wrap64 ((Int.tmod a2 ((rd_L1 t210 a1).length : Int)) + ((rd_L1 t210 a1).length : Int))) then (if (wrap64 ((Int.tmod a2 ((rd_L1 t210 a1).length : Int)) + ((rd_L1 t210 a1).length : Int))) < ((rd_L1 t210 a1).length : Int) then (some ((t210.set (a1 : Int).toNat ((rd_L1 t210 a1).set ((wrap64 ((Int.tmod a2 ((rd_L1 t210 a1).length : Int)) + ((rd_L1 t210 a1).length : Int))) : Int).toNat (Go.bits .xor .u8 (rd (rd_L1 t210 a1) (wrap64 ((Int.tmod a2 ((rd_L1 t210 a1).length : Int)) + ((rd_L1 t210 a1).length : Int)))) ((a3) % 256)))), 0)) else (none)) else (none)) else (if 0 ≤ (Int.tmod a2 ((rd_L1 t210 a1).length : Int)) then (if (Int.tmod a2 ((rd_L1 t210 a1).length : Int)) < ((rd_L1 t210 a1).length : Int) then (some ((t210.set (a1 : Int).toNat ((rd_L1 t210 a1).set ((Int.tmod a2 ((rd_L1 t210 a1).length : Int)) : Int).toNat (Go.bits .xor .u8 (rd (rd_L1 t210 a1) (Int.tmod a2 ((rd_L1 t210 a1).length : Int))) ((a3) % 256)))), 0)) else (none)) else (none)))) else (none)) else (none))) else (some (([] : List (List Int)), t209)))) = some (r1, r2) := h
 clear h
 replace H := Option.bind_eq_some_iff.mp H
 obtain ⟨t209, A50, H⟩ := H
 replace H : (if t209 = 0 then ((clusterlocksref23_Copy.f k l0).bind fun t210 => (if 0 ≤ a1 then (if a1 < (t210.length : Int) then (if ((rd_L1 t210 a1).length : Int) = 0 then (none) else (if (Int.tmod a2 ((rd_L1 t210 a1).length : Int)) < 0 then (if 0 ≤ (wrap64 ((Int.tmod a2 ((rd_L1 t210 a1).length : Int)) + ((rd_L1 t210 a1).length : Int))) then (if (wrap64 ((Int.tmod a2 ((rd_L1 t210 a1).length : Int)) + ((rd_L1 t210 a1).length : Int))) < ((rd_L1 t210 a1).length : Int) then (some ((t210.set (a1 : Int).toNat ((rd_L1 t210 a1).set ((wrap64 ((Int.tmod a2 ((rd_L1 t210 a1).length : Int)) + ((rd_L1 t210 a1).length : Int))) : Int).toNat (Go.bits .xor .u8 (rd (rd_L1 t210 a1) (wrap64 ((Int.tmod a2 ((rd_L1 t210 a1).length : Int)) + ((rd_L1 t210 a1).length : Int)))) ((a3) % 256)))), 0)) else (none)) else (none)) else (if 0 ≤ (Int.tmod a2 ((rd_L1 t210 a1).length : Int)) then (if (Int.tmod a2 ((rd_L1 t210 a1).length : Int)) < ((rd_L1 t210 a1).length : Int) then (some ((t210.set (a1 : Int).toNat ((rd_L1 t210 a1).set ((Int.tmod a2 ((rd_L1 t210 a1).length : Int)) : Int).toNat (Go.bits .xor .u8 (rd (rd_L1 t210 a1) (Int.tmod a2 ((rd_L1 t210 a1).length : Int))) ((a3) % 256)))), 0)) else (none)) else (none)))) else (none)) else (none))) else (some (([] : List (List Int)), t209))) = some (r1, r2) := H
 have A5 := Aside0.mk A50
 clear A50
 by_cases c6 : t209 = 0
 ·rw [if_pos c6] at H
  have c6b0 : (t209 == 0) = true := beq_iff_eq.mpr c6
  have c6b1 : (t209 != 0) = false := bne_eq_false_iff_eq.mpr c6
  clear c6
  replace H := Option.bind_eq_some_iff.mp H
  obtain ⟨t210, A70, H⟩ := H
  replace H : (if 0 ≤ a1 then (if a1 < (t210.length : Int) then (if ((rd_L1 t210 a1).length : Int) = 0 then (none) else (if (Int.tmod a2 ((rd_L1 t210 a1).length : Int)) < 0 then (if 0 ≤ (wrap64 ((Int.tmod a2 ((rd_L1 t210 a1).length : Int)) + ((rd_L1 t210 a1).length : Int))) then (if (wrap64 ((Int.tmod a2 ((rd_L1 t210 a1).length : Int)) + ((rd_L1 t210 a1).length : Int))) < ((rd_L1 t210 a1).length : Int) then (some ((t210.set (a1 : Int).toNat ((rd_L1 t210 a1).set ((wrap64 ((Int.tmod a2 ((rd_L1 t210 a1).length : Int)) + ((rd_L1 t210 a1).length : Int))) : Int).toNat (Go.bits .xor .u8 (rd (rd_L1 t210 a1) (wrap64 ((Int.tmod a2 ((rd_L1 t210 a1).length : Int)) + ((rd_L1 t210 a1).length : Int)))) ((a3) % 256)))), 0)) else (none)) else (none)) else (if 0 ≤ (Int.tmod a2 ((rd_L1 t210 a1).length : Int)) then (if (Int.tmod a2 ((rd_L1 t210 a1).length : Int)) < ((rd_L1 t210 a1).length : Int) then (some ((t210.set (a1 : Int).toNat ((rd_L1 t210 a1).set ((Int.tmod a2 ((rd_L1 t210 a1).length : Int)) : Int).toNat (Go.bits .xor .u8 (rd (rd_L1 t210 a1) (Int.tmod a2 ((rd_L1 t210 a1).length : Int))) ((a3) % 256)))), 0)) else (none)) else (none)))) else (none)) else (none)) = some (r1, r2) := H
  have A7 := Aside0.mk A70
  clear A70
  by_cases c8 : 0 ≤ a1
  ·rw [if_pos c8] at H
   have c8b0 : decide (0 ≤ a1) = true := decide_eq_true c8
   clear c8
   by_cases c9 : a1 < (t210.length : Int)
   ·rw [if_pos c9] at H
    have c9b0 : decide (a1 < (t210.length : Int)) = true := decide_eq_true c9
    clear c9
    by_cases c10 : ((rd_L1 t210 a1).length : Int) = 0
    ·rw [if_pos c10] at H
     exact absurd H (by simp)
    ·rw [if_neg c10] at H
     have c10b0 : (((rd_L1 t210 a1).length : Int) == 0) = false := beq_eq_false_iff_ne.mpr c10
     have c10b1 : (((rd_L1 t210 a1).length : Int) != 0) = true := bne_iff_ne.mpr c10
     have c10b2 : ¬ ((rd_L1 t210 a1) = []) := fun h_ => c10 (by rw [h_]; rfl)
     by_cases c11 : (Int.tmod a2 ((rd_L1 t210 a1).length : Int)) < 0
     ·rw [if_pos c11] at H
      have c11b0 : decide ((Int.tmod a2 ((rd_L1 t210 a1).length : Int)) < 0) = true := decide_eq_true c11
      clear c11
      obtain ⟨ji12, hji12⟩ : ∃ j_ : Int, (wrap64 ((Int.tmod a2 ((rd_L1 t210 a1).length : Int)) + ((rd_L1 t210 a1).length : Int))) = j_ := ⟨_, rfl⟩
      replace H : (if 0 ≤ (ji12) then (if (ji12) < ((rd_L1 t210 a1).length : Int) then (some ((t210.set (a1 : Int).toNat ((rd_L1 t210 a1).set ((ji12) : Int).toNat (Go.bits .xor .u8 (rd (rd_L1 t210 a1) (ji12)) ((a3) % 256)))), 0)) else (none)) else (none)) = some (r1, r2) := by first | (rw [hji12] at H; exact H) | (simp only [hji12] at H ⊢; exact H)
      (try rw [hji12] at A5)
      (try rw [hji12] at A7)
      have hji12w : (IntKind.i64.wrap ((Int.tmod a2 ((rd_L1 t210 a1).length : Int)) + ((rd_L1 t210 a1).length : Int))) = ji12 := (i64_w _).trans hji12
      by_cases c13 : 0 ≤ (ji12)
      ·rw [if_pos c13] at H
       have c13b0 : decide (0 ≤ (ji12)) = true := decide_eq_true c13
       clear c13
       by_cases c14 : (ji12) < ((rd_L1 t210 a1).length : Int)
       ·rw [if_pos c14] at H
        have c14b0 : decide ((ji12) < ((rd_L1 t210 a1).length : Int)) = true := decide_eq_true c14
        clear c14
        obtain ⟨y216, hy216⟩ : ∃ y_ : List Int, y_ = ((rd_L1 t210 a1).set ((ji12) : Int).toNat (Go.bits .xor .u8 (rd (rd_L1 t210 a1) (ji12)) ((a3) % 256))) := ⟨_, rfl⟩
        replace H : (some ((t210.set (a1 : Int).toNat y216), 0)) = some (r1, r2) := by first | (rw [hy216]; with_reducible exact H) | (have H2_ := (Option.bind_some _ _).symm.trans H; rw [hy216]; with_reducible exact H2_) | (have H2_ := (Option.bind_some _ _).symm.trans H; with_reducible exact H2_) | with_reducible exact H | (rw [hy216]; exact H) | exact H
        have Ny216 := Aside0.mk hy216
        clear hy216
        obtain ⟨y218, hy218⟩ : ∃ y_ : List (List Int), y_ = (t210.set (a1 : Int).toNat y216) := ⟨_, rfl⟩
        replace H : (some (y218, 0)) = some (r1, r2) := by first | (rw [hy218]; with_reducible exact H) | (have H2_ := (Option.bind_some _ _).symm.trans H; rw [hy218]; with_reducible exact H2_) | (have H2_ := (Option.bind_some _ _).symm.trans H; with_reducible exact H2_) | with_reducible exact H | (rw [hy218]; exact H) | exact H
        have Ny218 := Aside0.mk hy218
        clear hy218
        simp only [Option.some.injEq, Prod.mk.injEq] at H
        obtain ⟨rfl, rfl⟩ := H
        go_enter Try.func21, Try.ntmps21
        go_wp2_with (first | ((with_reducible refine gate_callee (f := 31) rfl ?_); refine goesL_ (some 15) rfl rfl Try.func31 (by kernel_rfl) rfl #[.slice A0 l0.length c0, .int .i64 a1] rfl (by (try simp only [List.map_toArray, List.map_cons, List.map_nil]); first | done | rfl | (simp only [List.length_drop, List.length_take]; rfl)) ?_; (with_reducible refine (clusterlocksref23_check.calls k _ _ l0 a1 t209 _ ?side1 ?side2 A5.out).mono ?_); (case side1 => exact zC HR0.out); (case side2 => exact HC0.out); rintro e w' ⟨rfl, ⟨nd, rfl⟩⟩; refine ⟨_, rfl, ?_⟩) | ((with_reducible refine gate_callee (f := 12) rfl ?_); refine goesL_ (some 20) rfl rfl Try.func12 (by kernel_rfl) rfl #[.slice A0 l0.length c0] rfl (by (try simp only [List.map_toArray, List.map_cons, List.map_nil]); first | done | rfl | (simp only [List.length_drop, List.length_take]; rfl)) ?_; (with_reducible refine (clusterlocksref23_Copy.calls k _ _ l0 t210 _ ?side1 ?side2 A7.out).mono ?_); (case side1 => exact zC HR0.out); (case side2 => exact HC0.out); rintro e w16 ⟨v211, rfl, ho0, hb⟩; refine ⟨_, rfl, ?_⟩; have n0_ := am (Kd.S_lower ho0 (below_size (zL HB.out))); have n1_ := am (below_step (zL HB.out) hb); clear HB; have HO212 := n0_; have HB := n1_; clear n0_ n1_; (try clear hb); (try clear hb2); (try clear hk); (try clear hi); (try clear ho0); obtain ⟨Ao17, co17, eo17⟩ := Kd.S_slice HO212.out; subst eo17; have p213 : 0 ≤ (a1 : Int) := of_decide_eq_true (by first | (with_reducible assumption) | assumption); have q213 : a1 < (t210.length : Int) := of_decide_eq_true (by first | (with_reducible assumption) | assumption); obtain ⟨ad213, A213_0, c213_0, e213, hx213_0, hl213_0, hi213_0⟩ := at_L1 (Kd.S_reads' HO212.out).2.2 a1 p213 q213; cases e213; obtain ⟨ce213, hce213, hMe213, hcc213⟩ := Kd.S_get HO212.out [] a1 p213 (by first | exact q213 | exact of_decide_eq_true (by first | (with_reducible assumption) | assumption) | (have e_ := (Kd.S_reads' HO212.out).1; omega)); obtain ⟨ve213_0, rfl, ge213_0⟩ := hMe213; have hv213_0 := hcc213 0 _ rfl; rw [Nat.add_zero, show ((Kd.slice 5 (Kd.int .u8))).sz = 1 from rfl, Nat.mul_one] at hv213_0; replace hv213_0 := Option.some.inj (hv213_0.symm.trans hx213_0); rw [hv213_0] at ge213_0; have HL213_0 := am (show Kd.R (Kd.int .u8) 5 _ _ _ _ (rd_L1 t210 a1) from ge213_0); clear hv213_0 ge213_0; have HX213_0 := Aside0.mk hx213_0; clear hcc213 hce213; have HR213_0 := Aside0.mk hi213_0; have HC213_0 := Aside0.mk hl213_0; clear hi213_0 hl213_0; replace p213 := eq_true p213; replace q213 := eq_true q213; have p214 : 0 ≤ (a1 : Int) := of_decide_eq_true (by first | (with_reducible assumption) | assumption); have q214 : a1 < (t210.length : Int) := of_decide_eq_true (by first | (with_reducible assumption) | assumption); obtain ⟨ad214, A214_0, c214_0, e214, hx214_0, hl214_0, hi214_0⟩ := at_L1 (Kd.S_reads' HO212.out).2.2 a1 p214 q214; obtain rfl : ad213 = ad214 := (by injection e214); obtain ⟨ce214, hce214, hMe214, hcc214⟩ := Kd.S_get HO212.out [] a1 p214 (by first | exact q214 | exact of_decide_eq_true (by first | (with_reducible assumption) | assumption) | (have e_ := (Kd.S_reads' HO212.out).1; omega)); obtain ⟨ve214_0, rfl, ge214_0⟩ := hMe214; have hv214_0 := hcc214 0 _ rfl; rw [Nat.add_zero, show ((Kd.slice 5 (Kd.int .u8))).sz = 1 from rfl, Nat.mul_one] at hv214_0; replace hv214_0 := Option.some.inj (hv214_0.symm.trans hx214_0); rw [hv214_0] at ge214_0; have HL214_0 := am (show Kd.R (Kd.int .u8) 5 _ _ _ _ (rd_L1 t210 a1) from ge214_0); clear hv214_0 ge214_0; have HX214_0 := Aside0.mk hx214_0; clear hcc214 hce214; have HR214_0 := Aside0.mk hi214_0; have HC214_0 := Aside0.mk hl214_0; clear hi214_0 hl214_0; replace p214 := eq_true p214; replace q214 := eq_true q214; have ea_ := Option.some.inj (hx213_0.symm.trans hx214_0); injection ea_ with ea_ en_ ec_; subst ea_; subst ec_; clear en_; have p215 : 0 ≤ ((ji12) : Int) := of_decide_eq_true (by first | (with_reducible assumption) | assumption); have q215 : (ji12) < ((rd_L1 t210 a1).length : Int) := of_decide_eq_true (by first | (with_reducible assumption) | assumption); obtain ⟨ad215, e215, hx215_0⟩ := Kd.at_int (by repeat (first | (with_reducible exact HR214_0.out) | (with_reducible refine Kd.C_alloc ?_ _) | (with_reducible refine Kd.C_drewN ?_ _) | (with_reducible refine Kd.C_drew ?_) | exact HR214_0.out)) (ji12) p215 q215; cases e215; replace p215 := eq_true p215; replace q215 := eq_true q215; have p15 : 0 ≤ ((ji12) : Int) := of_decide_eq_true (by first | (with_reducible assumption) | assumption); have q15 : ((ji12) : Int) < (((rd_L1 t210 a1).length : Int) : Int) := of_decide_eq_true (by first | (with_reducible assumption) | assumption); obtain ⟨go15, co15, eo15, gb15, gl15, cl15, HG15⟩ := Kd.R_form HL214_0.out (by omega); (first | cases eo15 | (injection eo15 with ea_ en_ ec_; (first | subst ea_ | (injection ea_ with ea_; subst ea_)); subst ec_; clear en_)); have GB15 := Aside0.mk gb15; have GG15 := Aside0.mk HG15; clear gb15 gl15 HG15; (first | simp only [add_plain] at hx215_0 | skip); obtain ⟨hx15_0, hf15_0⟩ := Kd.R_celln 0 HL214_0.out ((ji12) : Int) p15 q15; replace p15 := eq_true p15; replace q15 := eq_true q15; have hq18 : (a1 : Int) < (t210.length : Int) := (by have h_ : (a1 : Int) < ((t210.length : Int) : Int) := of_decide_eq_true (by first | (with_reducible assumption) | assumption); first | exact h_ | (have e_ := (Kd.S_reads' HO212.out).1; omega) | simpa only [List.length_set, List.length_set] using h_); obtain ⟨oki18, ce18, hcl18, hM18, hcc18, hok18, hbk18⟩ := Kd.S_borrow HO212.out [] (a1 : Int) (of_decide_eq_true (by first | (with_reducible assumption) | assumption)) hq18; obtain ⟨ve18_0, rfl, ge18_0⟩ := hM18; have hv18 := hcc18 0 _ rfl; rw [Nat.add_zero, show ((Kd.slice 5 (Kd.int .u8))).sz = 1 from rfl, Nat.mul_one] at hv18; replace hv18 := Option.some.inj (hv18.symm.trans HX214_0.out); subst hv18; clear hcc18 hcl18; replace ge18_0 := (show Kd.R (Kd.int .u8) 5 _ _ _ _ (rd_L1 t210 a1) from ge18_0); have HP18 := Kd.R_putg ge18_0 ((ji12) : Int) (Go.bits .xor .u8 (rd (rd_L1 t210 a1) (ji12)) ((a3) % 256))) | ((with_reducible refine gate_store (t := 5) (p := 44) rfl ?_); refine store_event (t := 5) (p := 44) (v := ?vo_w19) (w1 := (w16.setCell ⟨go15, ((ji12) : Int).toNat, none⟩ (.int .u8 (Go.bits .xor .u8 (rd (rd_L1 t210 a1) (ji12)) ((a3) % 256))))) ?hg ?ho ?hn ?hr ?_; (case ho => rfl); (case hg => rfl); (case hn => rfl); (case hr => first | (go_simp; done) | (go_simp; rfl)); intro w19 hw; have hg : w16.grownBy w19 (some go15) := (by rw [hw]; exact HP18.2); have hz_ : Kd.R (Kd.int .u8) 5 w19 w.heap.size oki18 (.slice (some ⟨go15, 0, none⟩) (rd_L1 t210 a1).length c213_0) y216 := (by rw [hw, Ny216.out]; exact HP18.1); have hp_ : Kd.S (Kd.slice 5 (Kd.int .u8)) 25 w19 w.heap.size (fun _ => True) (.slice (some ad213) t210.length co17) y218 := (by rw [Ny218.out]; exact hbk18 hg (fun k_ e_ => by injection e_ with e_; subst e_; exact ge18_0.1 _ rfl) (Kd.M_row hz_)); have hm_ := Kd.R_mono hz_ hok18; clear HP18 hbk18; have n0_ := am (hp_); have n1_ := am ((by rw [hw]; exact below_set (HB.out) GB15.out : Below w.heap.size w w19)); have n2_ := am (hm_); have n3_ := am ((Kd.R_reads' hm_).2.1); clear HO212 HB HL213_0 HL214_0; have HO212 := n0_; have HB := n1_; have HL224 := n2_; have HC217 := n3_; clear n0_ n1_ n2_ n3_; clear hg hw hp_ hz_ hm_ hok18))
        go_ret2
        exact ⟨_, by first | rfl | (simp [errW_none, errW_some] <;> rfl) | (simp only [← hji12]; first | rfl | (simp [errW_none, errW_some] <;> rfl)) | (simp [*, errW_none, errW_some] <;> rfl), by (with_reducible repeat (first | apply Kd.S_alloc | apply Kd.S_drewN | apply Kd.S_drew)); exact HO212.out, zL HB.out⟩
       ·rw [if_neg c14] at H
        exact absurd H (by simp)
      ·rw [if_neg c13] at H
       exact absurd H (by simp)
     ·rw [if_neg c11] at H
      have c11b0 : decide ((Int.tmod a2 ((rd_L1 t210 a1).length : Int)) < 0) = false := decide_eq_false c11
      clear c11
      obtain ⟨ji20, hji20⟩ : ∃ j_ : Int, (Int.tmod a2 ((rd_L1 t210 a1).length : Int)) = j_ := ⟨_, rfl⟩
      replace H : (if 0 ≤ (ji20) then (if (ji20) < ((rd_L1 t210 a1).length : Int) then (some ((t210.set (a1 : Int).toNat ((rd_L1 t210 a1).set ((ji20) : Int).toNat (Go.bits .xor .u8 (rd (rd_L1 t210 a1) (ji20)) ((a3) % 256)))), 0)) else (none)) else (none)) = some (r1, r2) := by first | (rw [hji20] at H; exact H) | (simp only [hji20] at H ⊢; exact H)
      (try rw [hji20] at c11b0)
      (try rw [hji20] at A5)
      (try rw [hji20] at A7)
      by_cases c21 : 0 ≤ (ji20)
      ·rw [if_pos c21] at H
       have c21b0 : decide (0 ≤ (ji20)) = true := decide_eq_true c21
       clear c21
       by_cases c22 : (ji20) < ((rd_L1 t210 a1).length : Int)
       ·rw [if_pos c22] at H
        have c22b0 : decide ((ji20) < ((rd_L1 t210 a1).length : Int)) = true := decide_eq_true c22
        clear c22
        obtain ⟨y221, hy221⟩ : ∃ y_ : List Int, y_ = ((rd_L1 t210 a1).set ((ji20) : Int).toNat (Go.bits .xor .u8 (rd (rd_L1 t210 a1) (ji20)) ((a3) % 256))) := ⟨_, rfl⟩
        replace H : (some ((t210.set (a1 : Int).toNat y221), 0)) = some (r1, r2) := by first | (rw [hy221]; with_reducible exact H) | (have H2_ := (Option.bind_some _ _).symm.trans H; rw [hy221]; with_reducible exact H2_) | (have H2_ := (Option.bind_some _ _).symm.trans H; with_reducible exact H2_) | with_reducible exact H | (rw [hy221]; exact H) | exact H
        have Ny221 := Aside0.mk hy221
        clear hy221
        obtain ⟨y223, hy223⟩ : ∃ y_ : List (List Int), y_ = (t210.set (a1 : Int).toNat y221) := ⟨_, rfl⟩
        replace H : (some (y223, 0)) = some (r1, r2) := by first | (rw [hy223]; with_reducible exact H) | (have H2_ := (Option.bind_some _ _).symm.trans H; rw [hy223]; with_reducible exact H2_) | (have H2_ := (Option.bind_some _ _).symm.trans H; with_reducible exact H2_) | with_reducible exact H | (rw [hy223]; exact H) | exact H
        have Ny223 := Aside0.mk hy223
        clear hy223
        simp only [Option.some.injEq, Prod.mk.injEq] at H
        obtain ⟨rfl, rfl⟩ := H
        go_enter Try.func21, Try.ntmps21
        go_wp2_with (first | ((with_reducible refine gate_callee (f := 31) rfl ?_); refine goesL_ (some 15) rfl rfl Try.func31 (by kernel_rfl) rfl #[.slice A0 l0.length c0, .int .i64 a1] rfl (by (try simp only [List.map_toArray, List.map_cons, List.map_nil]); first | done | rfl | (simp only [List.length_drop, List.length_take]; rfl)) ?_; (with_reducible refine (clusterlocksref23_check.calls k _ _ l0 a1 t209 _ ?side1 ?side2 A5.out).mono ?_); (case side1 => exact zC HR0.out); (case side2 => exact HC0.out); rintro e w' ⟨rfl, ⟨nd, rfl⟩⟩; refine ⟨_, rfl, ?_⟩) | ((with_reducible refine gate_callee (f := 12) rfl ?_); refine goesL_ (some 20) rfl rfl Try.func12 (by kernel_rfl) rfl #[.slice A0 l0.length c0] rfl (by (try simp only [List.map_toArray, List.map_cons, List.map_nil]); first | done | rfl | (simp only [List.length_drop, List.length_take]; rfl)) ?_; (with_reducible refine (clusterlocksref23_Copy.calls k _ _ l0 t210 _ ?side1 ?side2 A7.out).mono ?_); (case side1 => exact zC HR0.out); (case side2 => exact HC0.out); rintro e w24 ⟨v211, rfl, ho0, hb⟩; refine ⟨_, rfl, ?_⟩; have n0_ := am (Kd.S_lower ho0 (below_size (zL HB.out))); have n1_ := am (below_step (zL HB.out) hb); clear HB; have HO212 := n0_; have HB := n1_; clear n0_ n1_; (try clear hb); (try clear hb2); (try clear hk); (try clear hi); (try clear ho0); obtain ⟨Ao25, co25, eo25⟩ := Kd.S_slice HO212.out; subst eo25; have p213 : 0 ≤ (a1 : Int) := of_decide_eq_true (by first | (with_reducible assumption) | assumption); have q213 : a1 < (t210.length : Int) := of_decide_eq_true (by first | (with_reducible assumption) | assumption); obtain ⟨ad213, A213_0, c213_0, e213, hx213_0, hl213_0, hi213_0⟩ := at_L1 (Kd.S_reads' HO212.out).2.2 a1 p213 q213; cases e213; obtain ⟨ce213, hce213, hMe213, hcc213⟩ := Kd.S_get HO212.out [] a1 p213 (by first | exact q213 | exact of_decide_eq_true (by first | (with_reducible assumption) | assumption) | (have e_ := (Kd.S_reads' HO212.out).1; omega)); obtain ⟨ve213_0, rfl, ge213_0⟩ := hMe213; have hv213_0 := hcc213 0 _ rfl; rw [Nat.add_zero, show ((Kd.slice 5 (Kd.int .u8))).sz = 1 from rfl, Nat.mul_one] at hv213_0; replace hv213_0 := Option.some.inj (hv213_0.symm.trans hx213_0); rw [hv213_0] at ge213_0; have HL213_0 := am (show Kd.R (Kd.int .u8) 5 _ _ _ _ (rd_L1 t210 a1) from ge213_0); clear hv213_0 ge213_0; have HX213_0 := Aside0.mk hx213_0; clear hcc213 hce213; have HR213_0 := Aside0.mk hi213_0; have HC213_0 := Aside0.mk hl213_0; clear hi213_0 hl213_0; replace p213 := eq_true p213; replace q213 := eq_true q213; have p219 : 0 ≤ (a1 : Int) := of_decide_eq_true (by first | (with_reducible assumption) | assumption); have q219 : a1 < (t210.length : Int) := of_decide_eq_true (by first | (with_reducible assumption) | assumption); obtain ⟨ad219, A219_0, c219_0, e219, hx219_0, hl219_0, hi219_0⟩ := at_L1 (Kd.S_reads' HO212.out).2.2 a1 p219 q219; obtain rfl : ad213 = ad219 := (by injection e219); obtain ⟨ce219, hce219, hMe219, hcc219⟩ := Kd.S_get HO212.out [] a1 p219 (by first | exact q219 | exact of_decide_eq_true (by first | (with_reducible assumption) | assumption) | (have e_ := (Kd.S_reads' HO212.out).1; omega)); obtain ⟨ve219_0, rfl, ge219_0⟩ := hMe219; have hv219_0 := hcc219 0 _ rfl; rw [Nat.add_zero, show ((Kd.slice 5 (Kd.int .u8))).sz = 1 from rfl, Nat.mul_one] at hv219_0; replace hv219_0 := Option.some.inj (hv219_0.symm.trans hx219_0); rw [hv219_0] at ge219_0; have HL219_0 := am (show Kd.R (Kd.int .u8) 5 _ _ _ _ (rd_L1 t210 a1) from ge219_0); clear hv219_0 ge219_0; have HX219_0 := Aside0.mk hx219_0; clear hcc219 hce219; have HR219_0 := Aside0.mk hi219_0; have HC219_0 := Aside0.mk hl219_0; clear hi219_0 hl219_0; replace p219 := eq_true p219; replace q219 := eq_true q219; have ea_ := Option.some.inj (hx213_0.symm.trans hx219_0); injection ea_ with ea_ en_ ec_; subst ea_; subst ec_; clear en_; have p220 : 0 ≤ ((ji20) : Int) := of_decide_eq_true (by first | (with_reducible assumption) | assumption); have q220 : (ji20) < ((rd_L1 t210 a1).length : Int) := of_decide_eq_true (by first | (with_reducible assumption) | assumption); obtain ⟨ad220, e220, hx220_0⟩ := Kd.at_int (by repeat (first | (with_reducible exact HR219_0.out) | (with_reducible refine Kd.C_alloc ?_ _) | (with_reducible refine Kd.C_drewN ?_ _) | (with_reducible refine Kd.C_drew ?_) | exact HR219_0.out)) (ji20) p220 q220; cases e220; replace p220 := eq_true p220; replace q220 := eq_true q220; have p23 : 0 ≤ ((ji20) : Int) := of_decide_eq_true (by first | (with_reducible assumption) | assumption); have q23 : ((ji20) : Int) < (((rd_L1 t210 a1).length : Int) : Int) := of_decide_eq_true (by first | (with_reducible assumption) | assumption); obtain ⟨go23, co23, eo23, gb23, gl23, cl23, HG23⟩ := Kd.R_form HL219_0.out (by omega); (first | cases eo23 | (injection eo23 with ea_ en_ ec_; (first | subst ea_ | (injection ea_ with ea_; subst ea_)); subst ec_; clear en_)); have GB23 := Aside0.mk gb23; have GG23 := Aside0.mk HG23; clear gb23 gl23 HG23; (first | simp only [add_plain] at hx220_0 | skip); obtain ⟨hx23_0, hf23_0⟩ := Kd.R_celln 0 HL219_0.out ((ji20) : Int) p23 q23; replace p23 := eq_true p23; replace q23 := eq_true q23; have hq26 : (a1 : Int) < (t210.length : Int) := (by have h_ : (a1 : Int) < ((t210.length : Int) : Int) := of_decide_eq_true (by first | (with_reducible assumption) | assumption); first | exact h_ | (have e_ := (Kd.S_reads' HO212.out).1; omega) | simpa only [List.length_set, List.length_set] using h_); obtain ⟨oki26, ce26, hcl26, hM26, hcc26, hok26, hbk26⟩ := Kd.S_borrow HO212.out [] (a1 : Int) (of_decide_eq_true (by first | (with_reducible assumption) | assumption)) hq26; obtain ⟨ve26_0, rfl, ge26_0⟩ := hM26; have hv26 := hcc26 0 _ rfl; rw [Nat.add_zero, show ((Kd.slice 5 (Kd.int .u8))).sz = 1 from rfl, Nat.mul_one] at hv26; replace hv26 := Option.some.inj (hv26.symm.trans HX219_0.out); subst hv26; clear hcc26 hcl26; replace ge26_0 := (show Kd.R (Kd.int .u8) 5 _ _ _ _ (rd_L1 t210 a1) from ge26_0); have HP26 := Kd.R_putg ge26_0 ((ji20) : Int) (Go.bits .xor .u8 (rd (rd_L1 t210 a1) (ji20)) ((a3) % 256))) | ((with_reducible refine gate_store (t := 5) (p := 44) rfl ?_); refine store_event (t := 5) (p := 44) (v := ?vo_w27) (w1 := (w24.setCell ⟨go23, ((ji20) : Int).toNat, none⟩ (.int .u8 (Go.bits .xor .u8 (rd (rd_L1 t210 a1) (ji20)) ((a3) % 256))))) ?hg ?ho ?hn ?hr ?_; (case ho => rfl); (case hg => rfl); (case hn => rfl); (case hr => first | (go_simp; done) | (go_simp; rfl)); intro w27 hw; have hg : w24.grownBy w27 (some go23) := (by rw [hw]; exact HP26.2); have hz_ : Kd.R (Kd.int .u8) 5 w27 w.heap.size oki26 (.slice (some ⟨go23, 0, none⟩) (rd_L1 t210 a1).length c213_0) y221 := (by rw [hw, Ny221.out]; exact HP26.1); have hp_ : Kd.S (Kd.slice 5 (Kd.int .u8)) 25 w27 w.heap.size (fun _ => True) (.slice (some ad213) t210.length co25) y223 := (by rw [Ny223.out]; exact hbk26 hg (fun k_ e_ => by injection e_ with e_; subst e_; exact ge26_0.1 _ rfl) (Kd.M_row hz_)); have hm_ := Kd.R_mono hz_ hok26; clear HP26 hbk26; have n0_ := am (hp_); have n1_ := am ((by rw [hw]; exact below_set (HB.out) GB23.out : Below w.heap.size w w27)); have n2_ := am (hm_); have n3_ := am ((Kd.R_reads' hm_).2.1); clear HO212 HB HL213_0 HL219_0; have HO212 := n0_; have HB := n1_; have HL225 := n2_; have HC222 := n3_; clear n0_ n1_ n2_ n3_; clear hg hw hp_ hz_ hm_ hok26))
        go_ret2
        exact ⟨_, by first | rfl | (simp [errW_none, errW_some] <;> rfl) | (simp only [← hji20]; first | rfl | (simp [errW_none, errW_some] <;> rfl)) | (simp [*, errW_none, errW_some] <;> rfl), by (with_reducible repeat (first | apply Kd.S_alloc | apply Kd.S_drewN | apply Kd.S_drew)); exact HO212.out, zL HB.out⟩
       ·rw [if_neg c22] at H
        exact absurd H (by simp)
      ·rw [if_neg c21] at H
       exact absurd H (by simp)
   ·rw [if_neg c9] at H
    exact absurd H (by simp)
  ·rw [if_neg c8] at H
   exact absurd H (by simp)
 ·rw [if_neg c6] at H
  have c6b0 : (t209 == 0) = false := beq_eq_false_iff_ne.mpr c6
  have c6b1 : (t209 != 0) = true := bne_iff_ne.mpr c6
  simp only [Option.some.injEq, Prod.mk.injEq] at H
  obtain ⟨rfl, rfl⟩ := H
  go_enter Try.func21, Try.ntmps21
  go_wp2_with (first | ((with_reducible refine gate_callee (f := 31) rfl ?_); refine goesL_ (some 15) rfl rfl Try.func31 (by kernel_rfl) rfl #[.slice A0 l0.length c0, .int .i64 a1] rfl (by (try simp only [List.map_toArray, List.map_cons, List.map_nil]); first | done | rfl | (simp only [List.length_drop, List.length_take]; rfl)) ?_; (with_reducible refine (clusterlocksref23_check.calls k _ _ l0 a1 t209 _ ?side1 ?side2 A5.out).mono ?_); (case side1 => exact zC HR0.out); (case side2 => exact HC0.out); rintro e w' ⟨rfl, ⟨nd, rfl⟩⟩; refine ⟨_, rfl, ?_⟩))
  go_ret2
  exact ⟨_, by first | rfl | (simp [errW_none, errW_some] <;> rfl) | (simp [*, errW_none, errW_some] <;> rfl), by first | exact Kd.S_nil _ _ _ _ _ | exact Kd.N_nil _ _ _ _ _ | exact Kd.V_nil _ _ _ _ _ | exact Kd.Q_nil _ _ _ _ _ | exact Kd.R_nil _ _ _ _ _, zL HB.out⟩

end Go.Proofs.Ytnhdppfmdhdmdaa.Y

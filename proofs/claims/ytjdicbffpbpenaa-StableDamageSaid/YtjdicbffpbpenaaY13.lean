-- Laid by a program of this session's (xprint.py, which runs the kit's print.py with patches of its own). Lean checks it.
import Derived.Test.YtjdicbffpbpenaaY0
import Derived.Test.YtjdicbffpbpenaaY2
import Derived.Test.YtjdicbffpbpenaaY4
import Derived.Test.YtjdicbffpbpenaaY5
import Derived.Test.YtjdicbffpbpenaaY11
namespace Go.Proofs.Ytjdicbffpbpenaa.Y
open Go.RowKit Go.Proofs.YtjdicbffpbpenaaW.PrintWords Go.Proofs.YtjdicbffpbpenaaW.PrintLast Go.Proofs.YtjdicbffpbpenaaW.PrintMore
attribute [local go_sem] max2_int min2_int max_two min_two max_three min_three max_four min_four   -- for this text's walks alone
set_option linter.unusedVariables false
set_option linter.unusedSimpArgs false

/-! ### clusterlockslaw26_StableDamage: function 6 -/
mutual
def clusterlockslaw26_StableDamage.j0 : Nat → List Int → List Int → Int → Bool → Option (Bool)
 | 0, _, _, _, _ => none
 | k + 1, x0, x1, x2, x21 => if x21 = true then ((clusterlockslaw26_awake.f k).bind fun t507 => (some t507)) else ((stable_New.f).bind fun bt508 => ((stable_Write.f k bt508.1 bt508.2 x0).bind fun bt514 => ((stable_Write.f k bt514.1 bt514.2.1 x1).bind fun bt522 => (if bt514.2.2 = 0 then (if bt522.2.2 = 0 then (clusterlockslaw26_StableDamage.j1 k x0 x2 ((bt522.2.1.length : Int) == 0) bt522.1 bt522.2.1) else (clusterlockslaw26_StableDamage.j1 k x0 x2 true bt522.1 bt522.2.1)) else (clusterlockslaw26_StableDamage.j1 k x0 x2 true bt522.1 bt522.2.1)))))
def clusterlockslaw26_StableDamage.j1 : Nat → List Int → Int → Bool → List Int → List Int → Option (Bool)
 | 0, _, _, _, _, _ => none
 | k + 1, x0, x2, x46, x530000, x530001 => if x46 = true then (none) else ((clusterlocksmill_Mod.f x2 (x530001.length : Int)).bind fun t530 => (if 0 ≤ t530 then (if t530 ≤ (x530001.length : Int) then ((stable_Read.f k x530000 (x530001.take (t530 : Int).toNat)).bind fun bt534 => ((clusterlockslaw26_awake.f k).bind fun t539 => (if t539 = true then (if bt534.2.2 = 0 then (if bt534.2.1 = 1 then (some ((strOfNums bt534.1).toList == (strOfNums x0).toList)) else (none)) else (none)) else (none)))) else (none)) else (none)))
end
def clusterlockslaw26_StableDamage.f (k : Nat) (l0 : List Int) (l1 : List Int) (a2 : Int) : Option (Bool) := if (l0.length : Int) > 512 then (clusterlockslaw26_StableDamage.j0 k l0 l1 a2 true) else (clusterlockslaw26_StableDamage.j0 k l0 l1 a2 (decide ((l1.length : Int) > 512)))
theorem clusterlockslaw26_StableDamage.mono_l : ∀ k, (∀ y0 y1 y2 y3, LeO (clusterlockslaw26_StableDamage.j0 k y0 y1 y2 y3) (clusterlockslaw26_StableDamage.j0 (k + 1) y0 y1 y2 y3)) ∧ (∀ y0 y1 y2 y3 y4, LeO (clusterlockslaw26_StableDamage.j1 k y0 y1 y2 y3 y4) (clusterlockslaw26_StableDamage.j1 (k + 1) y0 y1 y2 y3 y4))
 | 0 => ⟨fun _ _ _ _ r h => by simp [clusterlockslaw26_StableDamage.j0] at h, fun _ _ _ _ _ r h => by simp [clusterlockslaw26_StableDamage.j1] at h⟩
 | k + 1 => by
  obtain ⟨ih0, ih1⟩ := clusterlockslaw26_StableDamage.mono_l k
  refine ⟨?_, ?_⟩
  ·intro y0 y1 y2 y3
   unfold clusterlockslaw26_StableDamage.j0
   repeat' first
   | (with_reducible exact ih0 _ _ _ _)
   | (with_reducible exact ih1 _ _ _ _ _)
   | (with_reducible exact clusterlockslaw26_awake.mono _)
   | (with_reducible exact stable_Read.mono _ _ _)
   | (with_reducible exact stable_Write.mono _ _ _ _)
   | (with_reducible exact LeO.refl _)
   | (with_reducible exact LeO.none _)
   | (with_reducible refine LeO.ite ?_ ?_)
   | (with_reducible refine LeO.bind ?_ (fun _ => ?_))
   | exact ih0 _ _ _ _
   | exact ih1 _ _ _ _ _
   | exact clusterlockslaw26_awake.mono _
   | exact stable_Read.mono _ _ _
   | exact stable_Write.mono _ _ _ _
   | exact LeO.none _
   | refine LeO.ite ?_ ?_
   | refine LeO.bind ?_ (fun _ => ?_)
  ·intro y0 y1 y2 y3 y4
   unfold clusterlockslaw26_StableDamage.j1
   repeat' first
   | (with_reducible exact ih0 _ _ _ _)
   | (with_reducible exact ih1 _ _ _ _ _)
   | (with_reducible exact clusterlockslaw26_awake.mono _)
   | (with_reducible exact stable_Read.mono _ _ _)
   | (with_reducible exact stable_Write.mono _ _ _ _)
   | (with_reducible exact LeO.refl _)
   | (with_reducible exact LeO.none _)
   | (with_reducible refine LeO.ite ?_ ?_)
   | (with_reducible refine LeO.bind ?_ (fun _ => ?_))
   | exact ih0 _ _ _ _
   | exact ih1 _ _ _ _ _
   | exact clusterlockslaw26_awake.mono _
   | exact stable_Read.mono _ _ _
   | exact stable_Write.mono _ _ _ _
   | exact LeO.none _
   | refine LeO.ite ?_ ?_
   | refine LeO.bind ?_ (fun _ => ?_)
theorem clusterlockslaw26_StableDamage.mono : ∀ a0 a1 a2 k, LeO (clusterlockslaw26_StableDamage.f k a0 a1 a2) (clusterlockslaw26_StableDamage.f (k + 1) a0 a1 a2) := by
 intro a0 a1 a2 k
 obtain ⟨ih0, ih1⟩ := clusterlockslaw26_StableDamage.mono_l k
 unfold clusterlockslaw26_StableDamage.f
 repeat' first
   | (with_reducible exact ih0 _ _ _ _)
   | (with_reducible exact ih1 _ _ _ _ _)
   | (with_reducible exact clusterlockslaw26_awake.mono _)
   | (with_reducible exact stable_Read.mono _ _ _)
   | (with_reducible exact stable_Write.mono _ _ _ _)
   | (with_reducible exact LeO.refl _)
   | (with_reducible exact LeO.none _)
   | (with_reducible refine LeO.ite ?_ ?_)
   | (with_reducible refine LeO.bind ?_ (fun _ => ?_))
   | exact ih0 _ _ _ _
   | exact ih1 _ _ _ _ _
   | exact clusterlockslaw26_awake.mono _
   | exact stable_Read.mono _ _ _
   | exact stable_Write.mono _ _ _ _
   | exact LeO.none _
   | refine LeO.ite ?_ ?_
   | refine LeO.bind ?_ (fun _ => ?_)
def clusterlockslaw26_StableDamage.T7 : Bool × List (List Nat × List Nat) := (true, [([], []), ([0], [0]), ([], []), ([], []), ([3], [3]), ([4], [4]), ([2, 5], [2, 5]), ([1, 6], [1, 6]), ([0, 1, 2, 3, 4, 5, 6, 7], []), ([8, 7, 6, 0, 1, 2, 3, 4, 5, 6, 7], [7, 8])])
def clusterlockslaw26_StableDamage.B7 : List Nat := [0, 1, 0, 0, 8, 24, 60, 127, 255, 511]
theorem clusterlockslaw26_StableDamage.tab7 : rtab .any (opsOf Try.f6 7) = clusterlockslaw26_StableDamage.T7 := by kernel_rfl
theorem clusterlockslaw26_StableDamage.bits7 : waitsOk clusterlockslaw26_StableDamage.T7.2 clusterlockslaw26_StableDamage.B7 = true := by kernel_rfl
set_option maxHeartbeats 8000000 in
set_option maxRecDepth 100000 in
theorem clusterlockslaw26_StableDamage.calls (k : Nat) (A0 : Option Addr) (c0 : Nat) (l0 : List Int) (A1 : Option Addr) (c1 : Nat) (l1 : List Int) (a2 : Int) (r : Bool) (w : World) (hr0 : Kd.C (Kd.int .u8) w A0 l0.length l0) (hc0 : l0.length ≤ c0) (hr1 : Kd.C (Kd.int .u8) w A1 l1.length l1) (hc1 : l1.length ≤ c1) (h : clusterlockslaw26_StableDamage.f k l0 l1 a2 = some r) :
  Calls Try.prog 6 #[.slice A0 l0.length c0, .slice A1 l1.length c1, .int .i64 a2] w fun e w' => e = .returned (.bool r) ∧ Below w.heap.size w w' := by
 have hu24 := Try.underlying24
 have HR0 := Aside0.mk hr0
 have HC0 := Aside0.mk hc0
 clear hr0 hc0
 have HR1 := Aside0.mk hr1
 have HC1 := Aside0.mk hc1
 clear hr1 hc1
 have HB := Aside0.mk (Below.refl w.heap.size w)
 have H : (if (l0.length : Int) > 512 then (clusterlockslaw26_StableDamage.j0 k l0 l1 a2 true) else (clusterlockslaw26_StableDamage.j0 k l0 l1 a2 (decide ((l1.length : Int) > 512)))) = some r := h
 clear h
 have HC4 := Aside0.mk H
 clear H
 go_enter Try.func6, Try.ntmps6
 go_upto_region 1 with (fail)
 go_cut [21] (fun v21 wc => ∃ (kq : Nat) (x21_3 : Bool), v21 = .bool x21_3 ∧ Aside0 (clusterlockslaw26_StableDamage.j0 kq l0 l1 a2 x21_3 = some r) ∧ Aside0 (kq ≤ k) ∧ Aside0 (Below w.heap.size w wc))
 case first =>
  have H := HC4.out
  clear HC4
  by_cases c5 : (l0.length : Int) > 512
  ·rw [if_pos c5] at H
   have c5b0 : decide (512 < (l0.length : Int)) = true := decide_eq_true c5
   have c5b1 : decide (512 < l0.length) = true := decide_eq_true (by omega)
   clear c5
   (first | rw [c5b0] | (simp only [i64_w, i32_w]; rw [c5b0]) | skip)
   have H' := Aside0.mk H
   clear H
   go_wp2
   go_meet
   case rel => exact ⟨_, (true), (by first | rfl | (simp; done) | (simp [*]; done)), H', ⟨by first | omega | exact Nat.le_refl _⟩, ⟨by repeat (first | (with_reducible first | exact HB.out | apply ba | apply bd | apply be) | exact HB.out)⟩⟩
  ·rw [if_neg c5] at H
   have c5b0 : decide (512 < (l0.length : Int)) = false := decide_eq_false c5
   have c5b1 : decide (512 < l0.length) = false := decide_eq_false (by omega)
   clear c5
   (first | rw [c5b0] | (simp only [i64_w, i32_w]; rw [c5b0]) | skip)
   have H' := Aside0.mk H
   clear H
   go_wp2
   go_meet
   case rel => exact ⟨_, (decide ((l1.length : Int) > 512)), (by first | rfl | (simp; done) | (simp [*]; done)), H', ⟨by first | omega | exact Nat.le_refl _⟩, ⟨by repeat (first | (with_reducible first | exact HB.out | apply ba | apply bd | apply be) | exact HB.out)⟩⟩
 case rest =>
  clear HC4
  try clear c1
  try clear p2
  try clear c5
  try clear c5b0
  try clear c5b1
  obtain ⟨kq, x21_3, rfl, HA, HJ3, HB⟩ := hcut
  cases kq with
  | zero => exact absurd HA.out (by simp [clusterlockslaw26_StableDamage.j0])
  | succ kj3 =>
   have H := HA.out
   clear HA
   simp only [clusterlockslaw26_StableDamage.j0] at H
   by_cases c6 : x21_3 = true
   ·subst c6
    have H1 : ((clusterlockslaw26_awake.f kj3).bind fun t507 => (some t507)) = some r := by rw [if_pos rfl] at H; exact H
    clear H
    have H := H1
    clear H1
    replace H := Option.bind_eq_some_iff.mp H
    obtain ⟨t507, A70, H⟩ := H
    replace H : (some t507) = some r := H
    have A7 := Aside0.mk A70
    clear A70
    obtain rfl := Option.some.inj H
    go_wp2_with (first | ((with_reducible refine gate_callee (f := 7) rfl ?_); refine goesL_ (some 22) rfl rfl Try.func7 (by kernel_rfl) rfl #[] rfl (by (try simp only [List.map_toArray, List.map_cons, List.map_nil]); first | done | rfl | (simp only [List.length_drop, List.length_take]; rfl)) ?_; (with_reducible refine (clusterlockslaw26_awake.calls kj3  t507 _ A7.out).mono ?_); rintro e w8 ⟨rfl, hb⟩; refine ⟨_, rfl, ?_⟩; have n0_ := Aside0.mk (below_step (by repeat (first | (with_reducible first | exact HB.out | apply ba | apply bd | apply be) | exact HB.out)) hb); clear HB; have HB := n0_; clear n0_; (try clear hb); (try clear hb2); (try clear hk); (try clear hi)))
    go_ret
    exact ⟨by first | rfl | (simp [errW_none, errW_some] <;> rfl) | (simp [*, errW_none, errW_some] <;> rfl), by repeat (first | (with_reducible first | exact HB.out | apply ba | apply bd | apply be) | exact HB.out)⟩
   ·replace c6 := Bool.eq_false_iff.mpr c6
    subst c6
    have H1 : ((stable_New.f).bind fun bt508 => ((stable_Write.f kj3 bt508.1 bt508.2 l0).bind fun bt514 => ((stable_Write.f kj3 bt514.1 bt514.2.1 l1).bind fun bt522 => (if bt514.2.2 = 0 then (if bt522.2.2 = 0 then (clusterlockslaw26_StableDamage.j1 kj3 l0 a2 ((bt522.2.1.length : Int) == 0) bt522.1 bt522.2.1) else (clusterlockslaw26_StableDamage.j1 kj3 l0 a2 true bt522.1 bt522.2.1)) else (clusterlockslaw26_StableDamage.j1 kj3 l0 a2 true bt522.1 bt522.2.1))))) = some r := by rw [if_neg (show ¬ (false = true) by decide)] at H; exact H
    clear H
    have H := H1
    clear H1
    replace H := Option.bind_eq_some_iff.mp H
    obtain ⟨⟨t508, t511⟩, A90, H⟩ := H
    replace H : ((stable_Write.f kj3 t508 t511 l0).bind fun bt514 => ((stable_Write.f kj3 bt514.1 bt514.2.1 l1).bind fun bt522 => (if bt514.2.2 = 0 then (if bt522.2.2 = 0 then (clusterlockslaw26_StableDamage.j1 kj3 l0 a2 ((bt522.2.1.length : Int) == 0) bt522.1 bt522.2.1) else (clusterlockslaw26_StableDamage.j1 kj3 l0 a2 true bt522.1 bt522.2.1)) else (clusterlockslaw26_StableDamage.j1 kj3 l0 a2 true bt522.1 bt522.2.1)))) = some r := H
    have A9 := Aside0.mk A90
    clear A90
    replace H := Option.bind_eq_some_iff.mp H
    obtain ⟨⟨t514, t517, t520⟩, A100, H⟩ := H
    replace H : ((stable_Write.f kj3 t514 t517 l1).bind fun bt522 => (if t520 = 0 then (if bt522.2.2 = 0 then (clusterlockslaw26_StableDamage.j1 kj3 l0 a2 ((bt522.2.1.length : Int) == 0) bt522.1 bt522.2.1) else (clusterlockslaw26_StableDamage.j1 kj3 l0 a2 true bt522.1 bt522.2.1)) else (clusterlockslaw26_StableDamage.j1 kj3 l0 a2 true bt522.1 bt522.2.1))) = some r := H
    have A10 := Aside0.mk A100
    clear A100
    replace H := Option.bind_eq_some_iff.mp H
    obtain ⟨⟨t522, t525, t528⟩, A110, H⟩ := H
    replace H : (if t520 = 0 then (if t528 = 0 then (clusterlockslaw26_StableDamage.j1 kj3 l0 a2 ((t525.length : Int) == 0) t522 t525) else (clusterlockslaw26_StableDamage.j1 kj3 l0 a2 true t522 t525)) else (clusterlockslaw26_StableDamage.j1 kj3 l0 a2 true t522 t525)) = some r := H
    have A11 := Aside0.mk A110
    clear A110
    have HC12 := Aside0.mk H
    clear H
    go_upto_region 5 with (first | ((with_reducible refine gate_callee (f := 16) rfl ?_); refine goesL_ (some 24) rfl rfl Try.func16 (by kernel_rfl) rfl #[] rfl (by (try simp only [List.map_toArray, List.map_cons, List.map_nil]); first | done | rfl | (simp only [List.length_drop, List.length_take]; rfl)) ?_; (with_reducible refine (stable_New.calls  t508 t511 _ A9.out).mono ?_); rintro e w13 ⟨v509, v512, rfl, ho0, ho1, hb⟩; refine ⟨_, rfl, ?_⟩; have n0_ := Aside0.mk (Kd.R_lower ho0 (below_size (by repeat (first | (with_reducible first | exact HB.out | apply ba | apply bd | apply be) | exact HB.out)))); have n1_ := Aside0.mk (Kd.R_lower ho1 (below_size (by repeat (first | (with_reducible first | exact HB.out | apply ba | apply bd | apply be) | exact HB.out)))); have n2_ := Aside0.mk (below_step (by repeat (first | (with_reducible first | exact HB.out | apply ba | apply bd | apply be) | exact HB.out)) hb); clear HB; have HO510 := n0_; have HO513 := n1_; have HB := n2_; clear n0_ n1_ n2_; (try clear hb); (try clear hb2); (try clear hk); (try clear hi); (try clear ho0); (try clear ho1); obtain ⟨Ao14, co14, eo14⟩ := Kd.R_slice HO510.out; subst eo14; obtain ⟨Ao15, co15, eo15⟩ := Kd.R_slice HO513.out; subst eo15) | ((with_reducible refine gate_callee (f := 10) rfl ?_); refine goesL_ (some 26) rfl rfl Try.func10 (by kernel_rfl) rfl #[.agg #[.slice Ao14 t508.length co14, .slice Ao15 t511.length co15], .slice A0 l0.length c0] rfl (by (try simp only [List.map_toArray, List.map_cons, List.map_nil]); first | done | rfl | (simp only [List.length_drop, List.length_take]; rfl)) ?_; (with_reducible refine (stable_Write.calls kj3 _ _ t508 _ _ t511 _ _ l0 t514 t517 t520 _ ?side1 ?side2 ?side3 ?side4 ?side5 ?side6 A10.out).mono ?_); (case side1 => repeat (first | exact (Kd.R_reads' HO510.out).2.2 | (with_reducible refine Kd.C_alloc ?_ _) | (with_reducible refine Kd.C_drewN ?_ _) | (with_reducible refine Kd.C_drew ?_))); (case side2 => exact (Kd.R_reads' HO510.out).2.1); (case side3 => repeat (first | exact (Kd.R_reads' HO513.out).2.2 | (with_reducible refine Kd.C_alloc ?_ _) | (with_reducible refine Kd.C_drewN ?_ _) | (with_reducible refine Kd.C_drew ?_))); (case side4 => exact (Kd.R_reads' HO513.out).2.1); (case side5 => repeat (first | exact (Kd.C_below HR0.out HB.out) | (with_reducible refine Kd.C_alloc ?_ _) | (with_reducible refine Kd.C_drewN ?_ _) | (with_reducible refine Kd.C_drew ?_))); (case side6 => exact HC0.out); rintro e w16 ⟨v515, v518, rfl, ho0, ho1, hb⟩; refine ⟨_, rfl, ?_⟩; have n0_ := Aside0.mk (Kd.R_mono (Kd.R_told (Kd.R_told (Kd.R_old (by (with_reducible repeat (first | apply Kd.R_alloc | apply Kd.R_drewN | apply Kd.R_drew)); exact HO510.out) hb) (Kd.R_base ho0)) (Kd.R_base ho1)) (fun _ h_ => h_.1)); have n1_ := Aside0.mk (Kd.R_mono (Kd.R_told (Kd.R_told (Kd.R_old (by (with_reducible repeat (first | apply Kd.R_alloc | apply Kd.R_drewN | apply Kd.R_drew)); exact HO513.out) hb) (Kd.R_base ho0)) (Kd.R_base ho1)) (fun _ h_ => h_.1)); have n2_ := Aside0.mk (Kd.R_lower (Kd.R_new' (Kd.R_new' ho0 (Kd.R_lt (by (with_reducible repeat (first | apply Kd.R_alloc | apply Kd.R_drewN | apply Kd.R_drew)); exact HO510.out))) (Kd.R_lt (by (with_reducible repeat (first | apply Kd.R_alloc | apply Kd.R_drewN | apply Kd.R_drew)); exact HO513.out))) (below_size (by repeat (first | (with_reducible first | exact HB.out | apply ba | apply bd | apply be) | exact HB.out)))); have n3_ := Aside0.mk (Kd.R_lower (Kd.R_new' (Kd.R_new' ho1 (Kd.R_lt (by (with_reducible repeat (first | apply Kd.R_alloc | apply Kd.R_drewN | apply Kd.R_drew)); exact HO510.out))) (Kd.R_lt (by (with_reducible repeat (first | apply Kd.R_alloc | apply Kd.R_drewN | apply Kd.R_drew)); exact HO513.out))) (below_size (by repeat (first | (with_reducible first | exact HB.out | apply ba | apply bd | apply be) | exact HB.out)))); have n4_ := Aside0.mk (below_step (by repeat (first | (with_reducible first | exact HB.out | apply ba | apply bd | apply be) | exact HB.out)) hb); clear HO510; clear HO513; clear HB; have HO510 := n0_; have HO513 := n1_; have HO516 := n2_; have HO519 := n3_; have HB := n4_; clear n0_ n1_ n2_ n3_ n4_; (try clear hb); (try clear hb2); (try clear hk); (try clear hi); (try clear ho0); (try clear ho1)) | ((with_reducible refine gate_dst (N := 7) rfl ?_); (try (refine gate_guard (by rfl) ?_; dsimp only)); refine box_event ?hg (N := 7) ?hd (cs := #[.slice none 0 0, .slice none 0 0]) (t := 24) ?hr ?_; (case hd => rfl); (case hg => rfl); (case hr => first | (go_simp; done) | (go_simp; rfl)); intro gb521 hg w17 hbox hb; have n0_ := Aside0.mk (Kd.R_below (by (with_reducible repeat (first | apply Kd.R_alloc | apply Kd.R_drewN | apply Kd.R_drew)); exact HO510.out) hb); have n1_ := Aside0.mk (Kd.R_below (by (with_reducible repeat (first | apply Kd.R_alloc | apply Kd.R_drewN | apply Kd.R_drew)); exact HO513.out) hb); have n2_ := Aside0.mk (Kd.R_below (by (with_reducible repeat (first | apply Kd.R_alloc | apply Kd.R_drewN | apply Kd.R_drew)); exact HO516.out) hb); have n3_ := Aside0.mk (Kd.R_below (by (with_reducible repeat (first | apply Kd.R_alloc | apply Kd.R_drewN | apply Kd.R_drew)); exact HO519.out) hb); have n4_ := Aside0.mk (below_step (by repeat (first | (with_reducible first | exact HB.out | apply ba | apply bd | apply be) | exact HB.out)) hb); have n5_ := Aside0.mk (hbox); have n6_ := Aside0.mk ((by rw [hg]; exact (below_size (by repeat (first | (with_reducible first | exact HB.out | apply ba | apply bd | apply be) | exact HB.out))) : w.heap.size ≤ gb521)); have n7_ := Aside0.mk ((by rw [hg]; exact (below_size (by repeat (first | (with_reducible first | exact HB.out | apply ba | apply bd | apply be) | exact HB.out))) : w.heap.size ≤ gb521)); clear HO510; clear HO513; clear HO516; clear HO519; clear HB; have HO510 := n0_; have HO513 := n1_; have HO516 := n2_; have HO519 := n3_; have HB := n4_; have BK521 := n5_; have GW521 := n6_; have GE521 := n7_; clear n0_ n1_ n2_ n3_ n4_ n5_ n6_ n7_; clear hb hbox hg; obtain ⟨Ao18, co18, eo18⟩ := Kd.R_slice HO516.out; subst eo18; have hcz19_0 : w17.cell? ⟨gb521, 0, none⟩ = some (.slice none 0 0) := (blk_cell BK521.out 0).trans rfl; have hcz19_1 : w17.cell? ⟨gb521, 1, none⟩ = some (.slice none 0 0) := (blk_cell BK521.out 1).trans rfl; have hfz19_0 := blk_frozen BK521.out 0; have hfz19_1 := blk_frozen BK521.out 1; obtain ⟨Ao20, co20, eo20⟩ := Kd.R_slice HO519.out; subst eo20) | ((with_reducible refine gate_store (t := 24) (p := 7) rfl ?_); refine store_event (t := 24) (p := 7) (v := ?vo_w21) (w1 := ((w17.setCell ⟨gb521, 0, none⟩ (.slice Ao18 t514.length co18)).setCell ⟨gb521, 1, none⟩ (.slice Ao20 t517.length co20))) ?hg ?ho ?hn ?hr ?_; (case ho => rfl); (case hg => rfl); (case hn => rfl); (case hr => first | (go_simp; done) | (go_simp; rfl)); intro w21 hw; have n0_ : Aside0 (Kd.R (Kd.int .u8) 5 w21 w.heap.size (fun k_ => some k_ ≠ (.slice Ao15 t511.length co15 : Value).ownBlock ∧ some k_ ≠ (.slice Ao18 t514.length co18 : Value).ownBlock ∧ some k_ ≠ (.slice Ao20 t517.length co20 : Value).ownBlock) (.slice Ao14 t508.length co14) t508) := ⟨(by rw [hw]; exact (by (with_reducible repeat (first | apply Kd.R_alloc | apply Kd.R_drewN | apply Kd.R_drew)); exact Kd.R_mono (Kd.R_far (p := ⟨gb521, 1, none⟩) (Kd.R_far (p := ⟨gb521, 0, none⟩) (Kd.R_types HO510.out BK521.out (by decide)) (fun _ hk => hk.2) (.slice Ao18 t514.length co18)) (fun _ hk => hk.2) (.slice Ao20 t517.length co20)) (fun _ hk => ⟨hk.1.1.1, ⟨hk.1.1.2, hk.1.2⟩⟩)))⟩; have n1_ : Aside0 (Kd.R (Kd.int .u8) 5 w21 w.heap.size (fun k_ => some k_ ≠ (.slice Ao14 t508.length co14 : Value).ownBlock ∧ some k_ ≠ (.slice Ao18 t514.length co18 : Value).ownBlock ∧ some k_ ≠ (.slice Ao20 t517.length co20 : Value).ownBlock) (.slice Ao15 t511.length co15) t511) := ⟨(by rw [hw]; exact (by (with_reducible repeat (first | apply Kd.R_alloc | apply Kd.R_drewN | apply Kd.R_drew)); exact Kd.R_mono (Kd.R_far (p := ⟨gb521, 1, none⟩) (Kd.R_far (p := ⟨gb521, 0, none⟩) (Kd.R_types HO513.out BK521.out (by decide)) (fun _ hk => hk.2) (.slice Ao18 t514.length co18)) (fun _ hk => hk.2) (.slice Ao20 t517.length co20)) (fun _ hk => ⟨hk.1.1.1, ⟨hk.1.1.2, hk.1.2⟩⟩)))⟩; have n2_ : Aside0 (Kd.R (Kd.int .u8) 5 w21 w.heap.size (fun k_ => some k_ ≠ (.slice Ao14 t508.length co14 : Value).ownBlock ∧ some k_ ≠ (.slice Ao15 t511.length co15 : Value).ownBlock ∧ some k_ ≠ (.slice Ao20 t517.length co20 : Value).ownBlock) (.slice Ao18 t514.length co18) t514) := ⟨(by rw [hw]; exact (by (with_reducible repeat (first | apply Kd.R_alloc | apply Kd.R_drewN | apply Kd.R_drew)); exact Kd.R_mono (Kd.R_far (p := ⟨gb521, 1, none⟩) (Kd.R_far (p := ⟨gb521, 0, none⟩) (Kd.R_types HO516.out BK521.out (by decide)) (fun _ hk => hk.2) (.slice Ao18 t514.length co18)) (fun _ hk => hk.2) (.slice Ao20 t517.length co20)) (fun _ hk => ⟨hk.1.1.2, ⟨hk.1.2, hk.1.1.1⟩⟩)))⟩; have n3_ : Aside0 (Kd.R (Kd.int .u8) 5 w21 w.heap.size (fun k_ => some k_ ≠ (.slice Ao14 t508.length co14 : Value).ownBlock ∧ some k_ ≠ (.slice Ao15 t511.length co15 : Value).ownBlock ∧ some k_ ≠ (.slice Ao18 t514.length co18 : Value).ownBlock) (.slice Ao20 t517.length co20) t517) := ⟨(by rw [hw]; exact (by (with_reducible repeat (first | apply Kd.R_alloc | apply Kd.R_drewN | apply Kd.R_drew)); exact Kd.R_mono (Kd.R_far (p := ⟨gb521, 1, none⟩) (Kd.R_far (p := ⟨gb521, 0, none⟩) (Kd.R_types HO519.out BK521.out (by decide)) (fun _ hk => hk.2) (.slice Ao18 t514.length co18)) (fun _ hk => hk.2) (.slice Ao20 t517.length co20)) (fun _ hk => ⟨hk.1.1.2, ⟨hk.1.2, hk.1.1.1⟩⟩)))⟩; have n4_ : Aside0 (w21.heap[gb521]? = some (.cells #[.slice Ao18 t514.length co18, .slice Ao20 t517.length co20] 24 (0, 0))) := ⟨(by rw [hw]; exact (by (with_reducible repeat (first | refine blk_drewN ?_ _ | refine blk_drew ?_ | refine blk_alloc ?_ _)); refine blk_put (cs := #[.slice Ao18 t514.length co18, .slice none 0 0]) ?_ 1 _ rfl; (with_reducible repeat (first | refine blk_drewN ?_ _ | refine blk_drew ?_ | refine blk_alloc ?_ _)); refine blk_put (cs := #[.slice none 0 0, .slice none 0 0]) ?_ 0 _ rfl; (with_reducible repeat (first | refine blk_drewN ?_ _ | refine blk_drew ?_ | refine blk_alloc ?_ _)); exact BK521.out))⟩; have n5_ : Aside0 (Below w.heap.size w w21) := ⟨(by rw [hw]; exact (by repeat (first | (with_reducible first | exact HB.out | apply ba | apply bd | apply be | refine below_set ?_ GE521.out) | exact HB.out)))⟩; clear hw; clear HO510; clear HO513; clear HO516; clear HO519; clear BK521; clear HB; have HO510 := n0_; have HO513 := n1_; have HO516 := n2_; have HO519 := n3_; have BK521 := n4_; have HB := n5_; clear n0_ n1_ n2_ n3_ n4_ n5_; have hcz22_0 : w21.cell? ⟨gb521, 0, none⟩ = some (.slice Ao18 t514.length co18) := (blk_cell BK521.out 0).trans rfl; have hcz22_1 : w21.cell? ⟨gb521, 1, none⟩ = some (.slice Ao20 t517.length co20) := (blk_cell BK521.out 1).trans rfl; have hfz22_0 := blk_frozen BK521.out 0; have hfz22_1 := blk_frozen BK521.out 1) | ((with_reducible refine gate_callee (f := 10) rfl ?_); refine goesL_ (some 32) rfl rfl Try.func10 (by kernel_rfl) rfl #[.agg #[.slice Ao18 t514.length co18, .slice Ao20 t517.length co20], .slice A1 l1.length c1] rfl (by (try simp only [List.map_toArray, List.map_cons, List.map_nil]); first | done | rfl | (simp only [List.length_drop, List.length_take]; rfl)) ?_; (with_reducible refine (stable_Write.calls kj3 _ _ t514 _ _ t517 _ _ l1 t522 t525 t528 _ ?side1 ?side2 ?side3 ?side4 ?side5 ?side6 A11.out).mono ?_); (case side1 => repeat (first | exact (Kd.R_reads' HO516.out).2.2 | (with_reducible refine Kd.C_alloc ?_ _) | (with_reducible refine Kd.C_drewN ?_ _) | (with_reducible refine Kd.C_drew ?_))); (case side2 => exact (Kd.R_reads' HO516.out).2.1); (case side3 => repeat (first | exact (Kd.R_reads' HO519.out).2.2 | (with_reducible refine Kd.C_alloc ?_ _) | (with_reducible refine Kd.C_drewN ?_ _) | (with_reducible refine Kd.C_drew ?_))); (case side4 => exact (Kd.R_reads' HO519.out).2.1); (case side5 => repeat (first | exact (Kd.C_below HR1.out HB.out) | (with_reducible refine Kd.C_alloc ?_ _) | (with_reducible refine Kd.C_drewN ?_ _) | (with_reducible refine Kd.C_drew ?_))); (case side6 => exact HC1.out); rintro e w23 ⟨v523, v526, rfl, ho0, ho1, hb⟩; refine ⟨_, rfl, ?_⟩; have n0_ := Aside0.mk (Kd.R_mono (Kd.R_told (Kd.R_told (Kd.R_old (by (with_reducible repeat (first | apply Kd.R_alloc | apply Kd.R_drewN | apply Kd.R_drew)); exact HO510.out) hb) (Kd.R_base ho0)) (Kd.R_base ho1)) (fun _ h_ => h_.1)); have n1_ := Aside0.mk (Kd.R_mono (Kd.R_told (Kd.R_told (Kd.R_old (by (with_reducible repeat (first | apply Kd.R_alloc | apply Kd.R_drewN | apply Kd.R_drew)); exact HO513.out) hb) (Kd.R_base ho0)) (Kd.R_base ho1)) (fun _ h_ => h_.1)); have n2_ := Aside0.mk (Kd.R_mono (Kd.R_told (Kd.R_told (Kd.R_old (by (with_reducible repeat (first | apply Kd.R_alloc | apply Kd.R_drewN | apply Kd.R_drew)); exact HO516.out) hb) (Kd.R_base ho0)) (Kd.R_base ho1)) (fun _ h_ => h_.1)); have n3_ := Aside0.mk (Kd.R_mono (Kd.R_told (Kd.R_told (Kd.R_old (by (with_reducible repeat (first | apply Kd.R_alloc | apply Kd.R_drewN | apply Kd.R_drew)); exact HO519.out) hb) (Kd.R_base ho0)) (Kd.R_base ho1)) (fun _ h_ => h_.1)); have n4_ := Aside0.mk (Kd.R_lower (Kd.R_new' (Kd.R_new' (Kd.R_new' (Kd.R_new' ho0 (Kd.R_lt (by (with_reducible repeat (first | apply Kd.R_alloc | apply Kd.R_drewN | apply Kd.R_drew)); exact HO510.out))) (Kd.R_lt (by (with_reducible repeat (first | apply Kd.R_alloc | apply Kd.R_drewN | apply Kd.R_drew)); exact HO513.out))) (Kd.R_lt (by (with_reducible repeat (first | apply Kd.R_alloc | apply Kd.R_drewN | apply Kd.R_drew)); exact HO516.out))) (Kd.R_lt (by (with_reducible repeat (first | apply Kd.R_alloc | apply Kd.R_drewN | apply Kd.R_drew)); exact HO519.out))) (below_size (by repeat (first | (with_reducible first | exact HB.out | apply ba | apply bd | apply be | refine below_set ?_ GE521.out) | exact HB.out)))); have n5_ := Aside0.mk (Kd.R_lower (Kd.R_new' (Kd.R_new' (Kd.R_new' (Kd.R_new' ho1 (Kd.R_lt (by (with_reducible repeat (first | apply Kd.R_alloc | apply Kd.R_drewN | apply Kd.R_drew)); exact HO510.out))) (Kd.R_lt (by (with_reducible repeat (first | apply Kd.R_alloc | apply Kd.R_drewN | apply Kd.R_drew)); exact HO513.out))) (Kd.R_lt (by (with_reducible repeat (first | apply Kd.R_alloc | apply Kd.R_drewN | apply Kd.R_drew)); exact HO516.out))) (Kd.R_lt (by (with_reducible repeat (first | apply Kd.R_alloc | apply Kd.R_drewN | apply Kd.R_drew)); exact HO519.out))) (below_size (by repeat (first | (with_reducible first | exact HB.out | apply ba | apply bd | apply be | refine below_set ?_ GE521.out) | exact HB.out)))); have n6_ := Aside0.mk (blk_below (g := gb521) (o := .cells #[.slice Ao18 t514.length co18, .slice Ao20 t517.length co20] 24 (0, 0)) (by (with_reducible repeat (first | refine blk_drewN ?_ _ | refine blk_drew ?_ | refine blk_alloc ?_ _)); exact BK521.out) hb); have n7_ := Aside0.mk (below_step (by repeat (first | (with_reducible first | exact HB.out | apply ba | apply bd | apply be | refine below_set ?_ GE521.out) | exact HB.out)) hb); clear HO510; clear HO513; clear HO516; clear HO519; clear BK521; clear HB; have HO510 := n0_; have HO513 := n1_; have HO516 := n2_; have HO519 := n3_; have HO524 := n4_; have HO527 := n5_; have BK521 := n6_; have HB := n7_; clear n0_ n1_ n2_ n3_ n4_ n5_ n6_ n7_; (try clear hb); (try clear hb2); (try clear hk); (try clear hi); (try clear ho0); (try clear ho1)) | ((with_reducible refine gate_dst (N := 9) rfl ?_); (try (refine gate_guard (by rfl) ?_; dsimp only)); refine box_event ?hg (N := 9) ?hd (cs := #[.slice none 0 0, .slice none 0 0]) (t := 24) ?hr ?_; (case hd => rfl); (case hg => rfl); (case hr => first | (go_simp; done) | (go_simp; rfl)); intro gb529 hg w24 hbox hb; have n0_ := Aside0.mk (Kd.R_below (by (with_reducible repeat (first | apply Kd.R_alloc | apply Kd.R_drewN | apply Kd.R_drew)); exact HO510.out) hb); have n1_ := Aside0.mk (Kd.R_below (by (with_reducible repeat (first | apply Kd.R_alloc | apply Kd.R_drewN | apply Kd.R_drew)); exact HO513.out) hb); have n2_ := Aside0.mk (Kd.R_below (by (with_reducible repeat (first | apply Kd.R_alloc | apply Kd.R_drewN | apply Kd.R_drew)); exact HO516.out) hb); have n3_ := Aside0.mk (Kd.R_below (by (with_reducible repeat (first | apply Kd.R_alloc | apply Kd.R_drewN | apply Kd.R_drew)); exact HO519.out) hb); have n4_ := Aside0.mk (Kd.R_below (by (with_reducible repeat (first | apply Kd.R_alloc | apply Kd.R_drewN | apply Kd.R_drew)); exact HO524.out) hb); have n5_ := Aside0.mk (Kd.R_below (by (with_reducible repeat (first | apply Kd.R_alloc | apply Kd.R_drewN | apply Kd.R_drew)); exact HO527.out) hb); have n6_ := Aside0.mk (blk_below (g := gb521) (o := .cells #[.slice Ao18 t514.length co18, .slice Ao20 t517.length co20] 24 (0, 0)) (by (with_reducible repeat (first | refine blk_drewN ?_ _ | refine blk_drew ?_ | refine blk_alloc ?_ _)); exact BK521.out) hb); have n7_ := Aside0.mk (below_step (by repeat (first | (with_reducible first | exact HB.out | apply ba | apply bd | apply be | refine below_set ?_ GE521.out) | exact HB.out)) hb); have n8_ := Aside0.mk (hbox); have n9_ := Aside0.mk ((by rw [hg]; exact (below_size (by repeat (first | (with_reducible first | exact HB.out | apply ba | apply bd | apply be | refine below_set ?_ GE521.out) | exact HB.out))) : w.heap.size ≤ gb529)); have n10_ := Aside0.mk ((by rw [hg]; exact (below_size (by repeat (first | (with_reducible first | exact HB.out | apply ba | apply bd | apply be | refine below_set ?_ GE521.out) | exact HB.out))) : w.heap.size ≤ gb529)); have n11_ := Aside0.mk ((by rw [hg]; exact Nat.ne_of_lt (blk_lt (g := gb521) (o := .cells #[.slice Ao18 t514.length co18, .slice Ao20 t517.length co20] 24 (0, 0)) (by (with_reducible repeat (first | refine blk_drewN ?_ _ | refine blk_drew ?_ | refine blk_alloc ?_ _)); exact BK521.out)) : gb521 ≠ gb529)); have n12_ := Aside0.mk ((by rw [hg]; exact Nat.ne_of_gt (blk_lt (g := gb521) (o := .cells #[.slice Ao18 t514.length co18, .slice Ao20 t517.length co20] 24 (0, 0)) (by (with_reducible repeat (first | refine blk_drewN ?_ _ | refine blk_drew ?_ | refine blk_alloc ?_ _)); exact BK521.out)) : gb529 ≠ gb521)); clear HO510; clear HO513; clear HO516; clear HO519; clear HO524; clear HO527; clear BK521; clear HB; have HO510 := n0_; have HO513 := n1_; have HO516 := n2_; have HO519 := n3_; have HO524 := n4_; have HO527 := n5_; have BK521 := n6_; have HB := n7_; have BK529 := n8_; have GW529 := n9_; have GE529 := n10_; have NB521_529 := n11_; have NB529_521 := n12_; clear n0_ n1_ n2_ n3_ n4_ n5_ n6_ n7_ n8_ n9_ n10_ n11_ n12_; clear hb hbox hg; obtain ⟨Ao25, co25, eo25⟩ := Kd.R_slice HO524.out; subst eo25; have hnb26 := NB529_521.out; have hnc26 := NB521_529.out; have hcz27_0 : w24.cell? ⟨gb529, 0, none⟩ = some (.slice none 0 0) := (blk_cell BK529.out 0).trans rfl; have hcz27_1 : w24.cell? ⟨gb529, 1, none⟩ = some (.slice none 0 0) := (blk_cell BK529.out 1).trans rfl; have hfz27_0 := blk_frozen BK529.out 0; have hfz27_1 := blk_frozen BK529.out 1; obtain ⟨Ao28, co28, eo28⟩ := Kd.R_slice HO527.out; subst eo28) | ((with_reducible refine gate_store (t := 24) (p := 9) rfl ?_); refine store_event (t := 24) (p := 9) (v := ?vo_w29) (w1 := ((w24.setCell ⟨gb529, 0, none⟩ (.slice Ao25 t522.length co25)).setCell ⟨gb529, 1, none⟩ (.slice Ao28 t525.length co28))) ?hg ?ho ?hn ?hr ?_; (case ho => rfl); (case hg => rfl); (case hn => rfl); (case hr => first | (go_simp; done) | (go_simp; rfl)); intro w29 hw; have n0_ : Aside0 (Kd.R (Kd.int .u8) 5 w29 w.heap.size (fun k_ => some k_ ≠ (.slice Ao15 t511.length co15 : Value).ownBlock ∧ some k_ ≠ (.slice Ao18 t514.length co18 : Value).ownBlock ∧ some k_ ≠ (.slice Ao20 t517.length co20 : Value).ownBlock ∧ some k_ ≠ (.slice Ao25 t522.length co25 : Value).ownBlock ∧ some k_ ≠ (.slice Ao28 t525.length co28 : Value).ownBlock) (.slice Ao14 t508.length co14) t508) := ⟨(by rw [hw]; exact (by (with_reducible repeat (first | apply Kd.R_alloc | apply Kd.R_drewN | apply Kd.R_drew)); exact Kd.R_mono (Kd.R_far (p := ⟨gb529, 1, none⟩) (Kd.R_far (p := ⟨gb529, 0, none⟩) (Kd.R_types HO510.out BK529.out (by decide)) (fun _ hk => hk.2) (.slice Ao25 t522.length co25)) (fun _ hk => hk.2) (.slice Ao28 t525.length co28)) (fun _ hk => ⟨hk.1.1.1.1, ⟨hk.1.1.1.2.1, ⟨hk.1.1.1.2.2, ⟨hk.1.1.2, hk.1.2⟩⟩⟩⟩)))⟩; have n1_ : Aside0 (Kd.R (Kd.int .u8) 5 w29 w.heap.size (fun k_ => some k_ ≠ (.slice Ao14 t508.length co14 : Value).ownBlock ∧ some k_ ≠ (.slice Ao18 t514.length co18 : Value).ownBlock ∧ some k_ ≠ (.slice Ao20 t517.length co20 : Value).ownBlock ∧ some k_ ≠ (.slice Ao25 t522.length co25 : Value).ownBlock ∧ some k_ ≠ (.slice Ao28 t525.length co28 : Value).ownBlock) (.slice Ao15 t511.length co15) t511) := ⟨(by rw [hw]; exact (by (with_reducible repeat (first | apply Kd.R_alloc | apply Kd.R_drewN | apply Kd.R_drew)); exact Kd.R_mono (Kd.R_far (p := ⟨gb529, 1, none⟩) (Kd.R_far (p := ⟨gb529, 0, none⟩) (Kd.R_types HO513.out BK529.out (by decide)) (fun _ hk => hk.2) (.slice Ao25 t522.length co25)) (fun _ hk => hk.2) (.slice Ao28 t525.length co28)) (fun _ hk => ⟨hk.1.1.1.1, ⟨hk.1.1.1.2.1, ⟨hk.1.1.1.2.2, ⟨hk.1.1.2, hk.1.2⟩⟩⟩⟩)))⟩; have n2_ : Aside0 (Kd.R (Kd.int .u8) 5 w29 w.heap.size (fun k_ => some k_ ≠ (.slice Ao14 t508.length co14 : Value).ownBlock ∧ some k_ ≠ (.slice Ao15 t511.length co15 : Value).ownBlock ∧ some k_ ≠ (.slice Ao20 t517.length co20 : Value).ownBlock ∧ some k_ ≠ (.slice Ao25 t522.length co25 : Value).ownBlock ∧ some k_ ≠ (.slice Ao28 t525.length co28 : Value).ownBlock) (.slice Ao18 t514.length co18) t514) := ⟨(by rw [hw]; exact (by (with_reducible repeat (first | apply Kd.R_alloc | apply Kd.R_drewN | apply Kd.R_drew)); exact Kd.R_mono (Kd.R_far (p := ⟨gb529, 1, none⟩) (Kd.R_far (p := ⟨gb529, 0, none⟩) (Kd.R_types HO516.out BK529.out (by decide)) (fun _ hk => hk.2) (.slice Ao25 t522.length co25)) (fun _ hk => hk.2) (.slice Ao28 t525.length co28)) (fun _ hk => ⟨hk.1.1.1.1, ⟨hk.1.1.1.2.1, ⟨hk.1.1.1.2.2, ⟨hk.1.1.2, hk.1.2⟩⟩⟩⟩)))⟩; have n3_ : Aside0 (Kd.R (Kd.int .u8) 5 w29 w.heap.size (fun k_ => some k_ ≠ (.slice Ao14 t508.length co14 : Value).ownBlock ∧ some k_ ≠ (.slice Ao15 t511.length co15 : Value).ownBlock ∧ some k_ ≠ (.slice Ao18 t514.length co18 : Value).ownBlock ∧ some k_ ≠ (.slice Ao25 t522.length co25 : Value).ownBlock ∧ some k_ ≠ (.slice Ao28 t525.length co28 : Value).ownBlock) (.slice Ao20 t517.length co20) t517) := ⟨(by rw [hw]; exact (by (with_reducible repeat (first | apply Kd.R_alloc | apply Kd.R_drewN | apply Kd.R_drew)); exact Kd.R_mono (Kd.R_far (p := ⟨gb529, 1, none⟩) (Kd.R_far (p := ⟨gb529, 0, none⟩) (Kd.R_types HO519.out BK529.out (by decide)) (fun _ hk => hk.2) (.slice Ao25 t522.length co25)) (fun _ hk => hk.2) (.slice Ao28 t525.length co28)) (fun _ hk => ⟨hk.1.1.1.1, ⟨hk.1.1.1.2.1, ⟨hk.1.1.1.2.2, ⟨hk.1.1.2, hk.1.2⟩⟩⟩⟩)))⟩; have n4_ : Aside0 (Kd.R (Kd.int .u8) 5 w29 w.heap.size (fun k_ => some k_ ≠ (.slice Ao14 t508.length co14 : Value).ownBlock ∧ some k_ ≠ (.slice Ao15 t511.length co15 : Value).ownBlock ∧ some k_ ≠ (.slice Ao18 t514.length co18 : Value).ownBlock ∧ some k_ ≠ (.slice Ao20 t517.length co20 : Value).ownBlock ∧ some k_ ≠ (.slice Ao28 t525.length co28 : Value).ownBlock) (.slice Ao25 t522.length co25) t522) := ⟨(by rw [hw]; exact (by (with_reducible repeat (first | apply Kd.R_alloc | apply Kd.R_drewN | apply Kd.R_drew)); exact Kd.R_mono (Kd.R_far (p := ⟨gb529, 1, none⟩) (Kd.R_far (p := ⟨gb529, 0, none⟩) (Kd.R_types HO524.out BK529.out (by decide)) (fun _ hk => hk.2) (.slice Ao25 t522.length co25)) (fun _ hk => hk.2) (.slice Ao28 t525.length co28)) (fun _ hk => ⟨hk.1.1.1.1.2, ⟨hk.1.1.1.2, ⟨hk.1.1.2, ⟨hk.1.2, hk.1.1.1.1.1⟩⟩⟩⟩)))⟩; have n5_ : Aside0 (Kd.R (Kd.int .u8) 5 w29 w.heap.size (fun k_ => some k_ ≠ (.slice Ao14 t508.length co14 : Value).ownBlock ∧ some k_ ≠ (.slice Ao15 t511.length co15 : Value).ownBlock ∧ some k_ ≠ (.slice Ao18 t514.length co18 : Value).ownBlock ∧ some k_ ≠ (.slice Ao20 t517.length co20 : Value).ownBlock ∧ some k_ ≠ (.slice Ao25 t522.length co25 : Value).ownBlock) (.slice Ao28 t525.length co28) t525) := ⟨(by rw [hw]; exact (by (with_reducible repeat (first | apply Kd.R_alloc | apply Kd.R_drewN | apply Kd.R_drew)); exact Kd.R_mono (Kd.R_far (p := ⟨gb529, 1, none⟩) (Kd.R_far (p := ⟨gb529, 0, none⟩) (Kd.R_types HO527.out BK529.out (by decide)) (fun _ hk => hk.2) (.slice Ao25 t522.length co25)) (fun _ hk => hk.2) (.slice Ao28 t525.length co28)) (fun _ hk => ⟨hk.1.1.1.1.2, ⟨hk.1.1.1.2, ⟨hk.1.1.2, ⟨hk.1.2, hk.1.1.1.1.1⟩⟩⟩⟩)))⟩; have n6_ : Aside0 (w29.heap[gb521]? = some (.cells #[.slice Ao18 t514.length co18, .slice Ao20 t517.length co20] 24 (0, 0))) := ⟨(by rw [hw]; exact (by (with_reducible repeat (first | refine blk_drewN ?_ _ | refine blk_drew ?_ | refine blk_alloc ?_ _)); refine blk_far ?_ NB521_529.out _; (with_reducible repeat (first | refine blk_drewN ?_ _ | refine blk_drew ?_ | refine blk_alloc ?_ _)); refine blk_far ?_ NB521_529.out _; (with_reducible repeat (first | refine blk_drewN ?_ _ | refine blk_drew ?_ | refine blk_alloc ?_ _)); exact BK521.out))⟩; have n7_ : Aside0 (w29.heap[gb529]? = some (.cells #[.slice Ao25 t522.length co25, .slice Ao28 t525.length co28] 24 (0, 0))) := ⟨(by rw [hw]; exact (by (with_reducible repeat (first | refine blk_drewN ?_ _ | refine blk_drew ?_ | refine blk_alloc ?_ _)); refine blk_put (cs := #[.slice Ao25 t522.length co25, .slice none 0 0]) ?_ 1 _ rfl; (with_reducible repeat (first | refine blk_drewN ?_ _ | refine blk_drew ?_ | refine blk_alloc ?_ _)); refine blk_put (cs := #[.slice none 0 0, .slice none 0 0]) ?_ 0 _ rfl; (with_reducible repeat (first | refine blk_drewN ?_ _ | refine blk_drew ?_ | refine blk_alloc ?_ _)); exact BK529.out))⟩; have n8_ : Aside0 (Below w.heap.size w w29) := ⟨(by rw [hw]; exact (by repeat (first | (with_reducible first | exact HB.out | apply ba | apply bd | apply be | refine below_set ?_ GE521.out | refine below_set ?_ GE529.out) | exact HB.out)))⟩; clear hw; clear HO510; clear HO513; clear HO516; clear HO519; clear HO524; clear HO527; clear BK521; clear BK529; clear HB; have HO510 := n0_; have HO513 := n1_; have HO516 := n2_; have HO519 := n3_; have HO524 := n4_; have HO527 := n5_; have BK521 := n6_; have BK529 := n7_; have HB := n8_; clear n0_ n1_ n2_ n3_ n4_ n5_ n6_ n7_ n8_))
    (try simp only [Act.put, List.setIfInBounds_toArray, List.set_cons_zero, List.set_cons_succ])
    go_cut [46] (fun v46 wc => ∃ (kq : Nat) (x46_11 : Bool), v46 = .bool x46_11 ∧ Aside0 (clusterlockslaw26_StableDamage.j1 kq l0 a2 x46_11 t522 t525 = some r) ∧ Aside0 (kq ≤ kj3) ∧ Aside0 (Kd.R (Kd.int .u8) 5 wc w.heap.size (fun k_ => some k_ ≠ ((.slice Ao20 t517.length co20) : Value).ownBlock ∧ some k_ ≠ ((.slice Ao25 t522.length co25) : Value).ownBlock ∧ some k_ ≠ ((.slice Ao28 t525.length co28) : Value).ownBlock) (.slice Ao18 t514.length co18) t514) ∧ Aside0 (Kd.R (Kd.int .u8) 5 wc w.heap.size (fun k_ => some k_ ≠ ((.slice Ao18 t514.length co18) : Value).ownBlock ∧ some k_ ≠ ((.slice Ao25 t522.length co25) : Value).ownBlock ∧ some k_ ≠ ((.slice Ao28 t525.length co28) : Value).ownBlock) (.slice Ao20 t517.length co20) t517) ∧ Aside0 (Kd.R (Kd.int .u8) 5 wc w.heap.size (fun k_ => some k_ ≠ ((.slice Ao18 t514.length co18) : Value).ownBlock ∧ some k_ ≠ ((.slice Ao20 t517.length co20) : Value).ownBlock ∧ some k_ ≠ ((.slice Ao28 t525.length co28) : Value).ownBlock) (.slice Ao25 t522.length co25) t522) ∧ Aside0 (Kd.R (Kd.int .u8) 5 wc w.heap.size (fun k_ => some k_ ≠ ((.slice Ao18 t514.length co18) : Value).ownBlock ∧ some k_ ≠ ((.slice Ao20 t517.length co20) : Value).ownBlock ∧ some k_ ≠ ((.slice Ao25 t522.length co25) : Value).ownBlock) (.slice Ao28 t525.length co28) t525) ∧ Aside0 (wc.heap[gb521]? = some (.cells #[(.slice Ao18 t514.length co18), (.slice Ao20 t517.length co20)] 24 (0, 0))) ∧ Aside0 (wc.heap[gb529]? = some (.cells #[(.slice Ao25 t522.length co25), (.slice Ao28 t525.length co28)] 24 (0, 0))) ∧ Aside0 (Below w.heap.size w wc))
    case first =>
     have H := HC12.out
     clear HC12
     by_cases c30 : t520 = 0
     ·rw [if_pos c30] at H
      have c30b0 : (t520 == 0) = true := beq_iff_eq.mpr c30
      have c30b1 : (t520 != 0) = false := bne_eq_false_iff_eq.mpr c30
      clear c30
      (first | rw [c30b0] | (simp only [i64_w, i32_w]; rw [c30b0]) | skip)
      by_cases c31 : t528 = 0
      ·rw [if_pos c31] at H
       have c31b0 : (t528 == 0) = true := beq_iff_eq.mpr c31
       have c31b1 : (t528 != 0) = false := bne_eq_false_iff_eq.mpr c31
       clear c31
       have H' := Aside0.mk H
       clear H
       have hnb32 := NB529_521.out
       have hnc32 := NB521_529.out
       have hcz33_0 : w29.cell? ⟨gb529, 0, none⟩ = some (.slice Ao25 t522.length co25) := (blk_cell BK529.out 0).trans rfl
       have hcz33_1 : w29.cell? ⟨gb529, 1, none⟩ = some (.slice Ao28 t525.length co28) := (blk_cell BK529.out 1).trans rfl
       have hfz33_0 := blk_frozen BK529.out 0
       have hfz33_1 := blk_frozen BK529.out 1
       go_wp2
       go_meet
       case rel => exact ⟨_, (((t525.length : Int) == 0)), (by first | rfl | (simp; done) | (simp [*]; done)), H', ⟨by have := HJ3.out; first | omega | exact Nat.le_refl _⟩, ⟨by (with_reducible repeat (first | apply Kd.R_alloc | apply Kd.R_drewN | apply Kd.R_drew)); exact Kd.R_mono HO516.out (fun _ hk => ⟨hk.2.2.1, ⟨hk.2.2.2.1, hk.2.2.2.2⟩⟩)⟩, ⟨by (with_reducible repeat (first | apply Kd.R_alloc | apply Kd.R_drewN | apply Kd.R_drew)); exact Kd.R_mono HO519.out (fun _ hk => ⟨hk.2.2.1, ⟨hk.2.2.2.1, hk.2.2.2.2⟩⟩)⟩, ⟨by (with_reducible repeat (first | apply Kd.R_alloc | apply Kd.R_drewN | apply Kd.R_drew)); exact Kd.R_mono HO524.out (fun _ hk => ⟨hk.2.2.1, ⟨hk.2.2.2.1, hk.2.2.2.2⟩⟩)⟩, ⟨by (with_reducible repeat (first | apply Kd.R_alloc | apply Kd.R_drewN | apply Kd.R_drew)); exact Kd.R_mono HO527.out (fun _ hk => ⟨hk.2.2.1, ⟨hk.2.2.2.1, hk.2.2.2.2⟩⟩)⟩, ⟨by (with_reducible repeat (first | refine blk_drewN ?_ _ | refine blk_drew ?_ | refine blk_alloc ?_ _)); exact BK521.out⟩, ⟨by (with_reducible repeat (first | refine blk_drewN ?_ _ | refine blk_drew ?_ | refine blk_alloc ?_ _)); exact BK529.out⟩, ⟨by repeat (first | (with_reducible first | exact HB.out | apply ba | apply bd | apply be | refine below_set ?_ GE521.out | refine below_set ?_ GE529.out) | exact HB.out)⟩⟩
      ·rw [if_neg c31] at H
       have c31b0 : (t528 == 0) = false := beq_eq_false_iff_ne.mpr c31
       have c31b1 : (t528 != 0) = true := bne_iff_ne.mpr c31
       have H' := Aside0.mk H
       clear H
       go_wp2
       go_meet
       case rel => exact ⟨_, (true), (by first | rfl | (simp; done) | (simp [*]; done)), H', ⟨by have := HJ3.out; first | omega | exact Nat.le_refl _⟩, ⟨by (with_reducible repeat (first | apply Kd.R_alloc | apply Kd.R_drewN | apply Kd.R_drew)); exact Kd.R_mono HO516.out (fun _ hk => ⟨hk.2.2.1, ⟨hk.2.2.2.1, hk.2.2.2.2⟩⟩)⟩, ⟨by (with_reducible repeat (first | apply Kd.R_alloc | apply Kd.R_drewN | apply Kd.R_drew)); exact Kd.R_mono HO519.out (fun _ hk => ⟨hk.2.2.1, ⟨hk.2.2.2.1, hk.2.2.2.2⟩⟩)⟩, ⟨by (with_reducible repeat (first | apply Kd.R_alloc | apply Kd.R_drewN | apply Kd.R_drew)); exact Kd.R_mono HO524.out (fun _ hk => ⟨hk.2.2.1, ⟨hk.2.2.2.1, hk.2.2.2.2⟩⟩)⟩, ⟨by (with_reducible repeat (first | apply Kd.R_alloc | apply Kd.R_drewN | apply Kd.R_drew)); exact Kd.R_mono HO527.out (fun _ hk => ⟨hk.2.2.1, ⟨hk.2.2.2.1, hk.2.2.2.2⟩⟩)⟩, ⟨by (with_reducible repeat (first | refine blk_drewN ?_ _ | refine blk_drew ?_ | refine blk_alloc ?_ _)); exact BK521.out⟩, ⟨by (with_reducible repeat (first | refine blk_drewN ?_ _ | refine blk_drew ?_ | refine blk_alloc ?_ _)); exact BK529.out⟩, ⟨by repeat (first | (with_reducible first | exact HB.out | apply ba | apply bd | apply be | refine below_set ?_ GE521.out | refine below_set ?_ GE529.out) | exact HB.out)⟩⟩
     ·rw [if_neg c30] at H
      have c30b0 : (t520 == 0) = false := beq_eq_false_iff_ne.mpr c30
      have c30b1 : (t520 != 0) = true := bne_iff_ne.mpr c30
      (first | rw [c30b0] | (simp only [i64_w, i32_w]; rw [c30b0]) | skip)
      have H' := Aside0.mk H
      clear H
      go_wp2
      go_meet
      case rel => exact ⟨_, (true), (by first | rfl | (simp; done) | (simp [*]; done)), H', ⟨by have := HJ3.out; first | omega | exact Nat.le_refl _⟩, ⟨by (with_reducible repeat (first | apply Kd.R_alloc | apply Kd.R_drewN | apply Kd.R_drew)); exact Kd.R_mono HO516.out (fun _ hk => ⟨hk.2.2.1, ⟨hk.2.2.2.1, hk.2.2.2.2⟩⟩)⟩, ⟨by (with_reducible repeat (first | apply Kd.R_alloc | apply Kd.R_drewN | apply Kd.R_drew)); exact Kd.R_mono HO519.out (fun _ hk => ⟨hk.2.2.1, ⟨hk.2.2.2.1, hk.2.2.2.2⟩⟩)⟩, ⟨by (with_reducible repeat (first | apply Kd.R_alloc | apply Kd.R_drewN | apply Kd.R_drew)); exact Kd.R_mono HO524.out (fun _ hk => ⟨hk.2.2.1, ⟨hk.2.2.2.1, hk.2.2.2.2⟩⟩)⟩, ⟨by (with_reducible repeat (first | apply Kd.R_alloc | apply Kd.R_drewN | apply Kd.R_drew)); exact Kd.R_mono HO527.out (fun _ hk => ⟨hk.2.2.1, ⟨hk.2.2.2.1, hk.2.2.2.2⟩⟩)⟩, ⟨by (with_reducible repeat (first | refine blk_drewN ?_ _ | refine blk_drew ?_ | refine blk_alloc ?_ _)); exact BK521.out⟩, ⟨by (with_reducible repeat (first | refine blk_drewN ?_ _ | refine blk_drew ?_ | refine blk_alloc ?_ _)); exact BK529.out⟩, ⟨by repeat (first | (with_reducible first | exact HB.out | apply ba | apply bd | apply be | refine below_set ?_ GE521.out | refine below_set ?_ GE529.out) | exact HB.out)⟩⟩
    case rest =>
     clear HC12
     try clear c1
     try clear c2
     try clear p2
     try clear c3
     try clear c5
     try clear c5b0
     try clear c5b1
     try clear c6
     try clear c7
     try clear c10
     try clear c16
     try clear c26
     try clear c30
     try clear c30b0
     try clear c30b1
     try clear c31
     try clear c31b0
     try clear c31b1
     try clear c32
     try clear hcz19_0
     try clear hcz19_1
     try clear hcz22_0
     try clear hcz22_1
     try clear hcz27_0
     try clear hcz27_1
     try clear hcz33_0
     try clear hcz33_1
     try clear hfz19_0
     try clear hfz19_1
     try clear hfz22_0
     try clear hfz22_1
     try clear hfz27_0
     try clear hfz27_1
     try clear hfz33_0
     try clear hfz33_1
     try clear p2
     obtain ⟨kq, x46_11, rfl, HA, HJ11, HO_522000, HO_522001, HO_530000, HO_530001, BK521, BK529, HB⟩ := hcut
     cases kq with
     | zero => exact absurd HA.out (by simp [clusterlockslaw26_StableDamage.j1])
     | succ kj11 =>
      have H := HA.out
      clear HA
      simp only [clusterlockslaw26_StableDamage.j1] at H
      by_cases c34 : x46_11 = true
      ·subst c34
       have H1 : (none) = some r := by rw [if_pos rfl] at H; exact H
       clear H
       have H := H1
       clear H1
       exact absurd H (by simp)
      ·replace c34 := Bool.eq_false_iff.mpr c34
       subst c34
       have H1 : ((clusterlocksmill_Mod.f a2 (t525.length : Int)).bind fun t530 => (if 0 ≤ t530 then (if t530 ≤ (t525.length : Int) then ((stable_Read.f kj11 t522 (t525.take (t530 : Int).toNat)).bind fun bt534 => ((clusterlockslaw26_awake.f kj11).bind fun t539 => (if t539 = true then (if bt534.2.2 = 0 then (if bt534.2.1 = 1 then (some ((strOfNums bt534.1).toList == (strOfNums l0).toList)) else (none)) else (none)) else (none)))) else (none)) else (none))) = some r := by rw [if_neg (show ¬ (false = true) by decide)] at H; exact H
       clear H
       have H := H1
       clear H1
       replace H := Option.bind_eq_some_iff.mp H
       obtain ⟨t530, A350, H⟩ := H
       replace H : (if 0 ≤ t530 then (if t530 ≤ (t525.length : Int) then ((stable_Read.f kj11 t522 (t525.take (t530 : Int).toNat)).bind fun bt534 => ((clusterlockslaw26_awake.f kj11).bind fun t539 => (if t539 = true then (if bt534.2.2 = 0 then (if bt534.2.1 = 1 then (some ((strOfNums bt534.1).toList == (strOfNums l0).toList)) else (none)) else (none)) else (none)))) else (none)) else (none)) = some r := H
       have A35 := Aside0.mk A350
       clear A350
       by_cases c36 : 0 ≤ t530
       ·rw [if_pos c36] at H
        have c36b0 := eq_true c36
        have c36b1 : decide (0 ≤ t530) = true := decide_eq_true c36
        clear c36
        by_cases c37 : t530 ≤ (t525.length : Int)
        ·rw [if_pos c37] at H
         have c37b0 := eq_true c37
         have c37b1 : decide (t530 ≤ (t525.length : Int)) = true := decide_eq_true c37
         clear c37
         obtain ⟨y531, hy531⟩ : ∃ y_ : List Int, y_ = (t525.take (t530 : Int).toNat) := ⟨_, rfl⟩
         replace H : ((stable_Read.f kj11 t522 y531).bind fun bt534 => ((clusterlockslaw26_awake.f kj11).bind fun t539 => (if t539 = true then (if bt534.2.2 = 0 then (if bt534.2.1 = 1 then (some ((strOfNums bt534.1).toList == (strOfNums l0).toList)) else (none)) else (none)) else (none)))) = some r := by first | (rw [hy531]; with_reducible exact H) | (have H2_ := (Option.bind_some _ _).symm.trans H; rw [hy531]; with_reducible exact H2_) | (have H2_ := (Option.bind_some _ _).symm.trans H; with_reducible exact H2_) | with_reducible exact H | (rw [hy531]; exact H) | exact H
         have Ny531 := Aside0.mk hy531
         clear hy531
         replace H := Option.bind_eq_some_iff.mp H
         obtain ⟨⟨t534, t537, t538⟩, A380, H⟩ := H
         replace H : ((clusterlockslaw26_awake.f kj11).bind fun t539 => (if t539 = true then (if t538 = 0 then (if t537 = 1 then (some ((strOfNums t534).toList == (strOfNums l0).toList)) else (none)) else (none)) else (none))) = some r := H
         have A38 := Aside0.mk A380
         clear A380
         replace H := Option.bind_eq_some_iff.mp H
         obtain ⟨t539, A390, H⟩ := H
         replace H : (if t539 = true then (if t538 = 0 then (if t537 = 1 then (some ((strOfNums t534).toList == (strOfNums l0).toList)) else (none)) else (none)) else (none)) = some r := H
         have A39 := Aside0.mk A390
         clear A390
         by_cases c40 : t539 = true
         ·subst c40
          have H1 : (if t538 = 0 then (if t537 = 1 then (some ((strOfNums t534).toList == (strOfNums l0).toList)) else (none)) else (none)) = some r := by rw [if_pos rfl] at H; exact H
          clear H
          have H := H1
          clear H1
          by_cases c41 : t538 = 0
          ·rw [if_pos c41] at H
           have c41b0 : (t538 == 0) = true := beq_iff_eq.mpr c41
           have c41b1 : (t538 != 0) = false := bne_eq_false_iff_eq.mpr c41
           clear c41
           by_cases c42 : t537 = 1
           ·rw [if_pos c42] at H
            have c42b0 : (t537 == 1) = true := beq_iff_eq.mpr c42
            have c42b1 : (t537 != 1) = false := bne_eq_false_iff_eq.mpr c42
            clear c42
            obtain rfl := Option.some.inj H
            try go_wp2
            have n0_ := Aside0.mk (Kd.R_drew HO_522000.out)
            have n1_ := Aside0.mk (Kd.R_drew HO_522001.out)
            have n2_ := Aside0.mk (Kd.R_drew HO_530000.out)
            have n3_ := Aside0.mk (Kd.R_drew HO_530001.out)
            have n4_ := Aside0.mk (blk_drew BK521.out)
            have n5_ := Aside0.mk (blk_drew BK529.out)
            have n6_ := Aside0.mk (below_drew1 HB.out)
            clear HO_522000
            clear HO_522001
            clear HO_530000
            clear HO_530001
            clear BK521
            clear BK529
            clear HB
            have HO_522000 := n0_
            have HO_522001 := n1_
            have HO_530000 := n2_
            have HO_530001 := n3_
            have BK521 := n4_
            have BK529 := n5_
            have HB := n6_
            clear n0_ n1_ n2_ n3_ n4_ n5_ n6_
            refine start_ (n := 10) (S := fun w' => w'.cell? ⟨gb529, 0, none⟩ = some (.slice Ao25 t522.length co25) ∧ w'.cell? ⟨gb529, 1, none⟩ = some (.slice Ao28 t525.length co28)) (ds := [9]) #[false, false, false, false, false, false, false, false, false, false] (by kernel_rfl) rfl rfl ⟨(blk_cell BK529.out 0).trans rfl, (blk_cell BK529.out 1).trans rfl⟩ (fun hHeld => ?_); refine with_tabW clusterlockslaw26_StableDamage.tab7 clusterlockslaw26_StableDamage.bits7 (fun HT_ HW_ => ?_)
            generalize wc.drew = w43 at HO_522000 HO_522001 HO_530000 HO_530001 BK521 BK529 HB hHeld ⊢
            refine pure_ (i := 0) (N := some 47) (v := ?_) (a' := ?_) #[true, false, false, false, false, false, false, false, false, false] rfl rfl (any_of HT_.out (by kernel_rfl)) (fun _ _ _ h => h) (Or.inl ⟨by rfl, ?_⟩) ?_ ?_
            rotate_left
            ·intro w'
             go_simp
             with_reducible rfl
            rotate_left
            ·simp only [Act.put, List.setIfInBounds_toArray, List.set_cons_zero, List.set_cons_succ, i64_w, i32_w]
             rfl
            refine pure_ (i := 2) (N := some 49) (v := ?_) (a' := ?_) #[true, false, true, false, false, false, false, false, false, false] rfl rfl (any_of HT_.out (by kernel_rfl)) (fun _ _ _ h => h) (Or.inl ⟨by rfl, ?_⟩) ?_ ?_
            rotate_left
            ·intro w'
             go_simp
             with_reducible rfl
            rotate_left
            ·simp only [Act.put, List.setIfInBounds_toArray, List.set_cons_zero, List.set_cons_succ, i64_w, i32_w]
             rfl
            refine pure_ (i := 3) (N := some 50) (v := ?_) (a' := ?_) #[true, false, true, true, false, false, false, false, false, false] rfl rfl (any_of HT_.out (by kernel_rfl)) (fun _ _ _ h => h) (Or.inl ⟨by rfl, ?_⟩) ?_ ?_
            rotate_left
            ·intro w'
             go_simp
             with_reducible rfl
            rotate_left
            ·simp only [Act.put, List.setIfInBounds_toArray, List.set_cons_zero, List.set_cons_succ, i64_w, i32_w]
             rfl
            refine take_ (i := 1) (N := some 48) (v := ?_) (a' := ?_) #[true, true, true, true, false, false, false, false, false, false] rfl rfl (take_ofW HT_.out HW_.out (by kernel_rfl)) (fun _ _ _ h => h) (Or.inl ⟨by rfl, ?_⟩) hHeld ?_ ?_
            rotate_left
            ·rintro w' ⟨s0, s1⟩
             go_simp
             with_reducible rfl
            rotate_left
            ·simp only [Act.put, List.setIfInBounds_toArray, List.set_cons_zero, List.set_cons_succ, i64_w, i32_w]
             rfl
            refine take_ (i := 4) (N := some 51) (v := ?_) (a' := ?_) #[true, true, true, true, true, false, false, false, false, false] rfl rfl (take_ofW HT_.out HW_.out (by kernel_rfl)) (fun _ _ _ h => h) (Or.inl ⟨by rfl, ?_⟩) hHeld ?_ ?_
            rotate_left
            ·rintro w' ⟨s0, s1⟩
             go_simp
             with_reducible rfl
            rotate_left
            ·simp only [Act.put, List.setIfInBounds_toArray, List.set_cons_zero, List.set_cons_succ, i64_w, i32_w]
             rfl
            refine pure_ (i := 5) (N := some 52) (v := ?_) (a' := ?_) #[true, true, true, true, true, true, false, false, false, false] rfl rfl (any_of HT_.out (by kernel_rfl)) (fun _ _ _ h => h) (Or.inl ⟨by rfl, ?_⟩) ?_ ?_
            rotate_left
            ·intro w'
             go_simp
             with_reducible rfl
            rotate_left
            ·simp only [Act.put, List.setIfInBounds_toArray, List.set_cons_zero, List.set_cons_succ, i64_w, i32_w]
             rfl
            refine one_ (i := 6) (N := some 53) #[true, true, true, true, true, true, true, false, false, false] rfl rfl (one_of HT_.out (by kernel_rfl)) (by decide) (fun K hK => ?_)
            refine goes_ Try.func20 (by kernel_rfl) rfl #[.int .i64 a2, .int .i64 (t525.length : Int)] (by rfl) rfl rfl (by (try simp only [List.map_toArray, List.map_cons, List.map_nil]); first | done | rfl | (simp only [List.length_drop, List.length_take]; rfl)) ?_
            with_reducible refine (clusterlocksmill_Mod.calls a2 (t525.length : Int) t530 _ A35.out).mono ?_
            rintro e w' ⟨rfl, ⟨nd, rfl⟩⟩
            refine ⟨_, rfl, ?_⟩
            have q44 : (t530 : Int) ≤ ((t525.length : Int) : Int) := of_decide_eq_true (by first | (with_reducible assumption) | assumption)
            obtain ⟨i044, hi044, _, hsz44, _⟩ := info_parts info5
            have hcut44 := cut_to (P := Try.prog) 22 5 .i64 Try.underlying22 hi044 Ao28 t525.length co28 t530 (of_decide_eq_true (by first | (with_reducible assumption) | assumption)) q44 (Kd.R_reads' HO_530001.out).2.1
            have hr44 := Kd.R_take (m := (t530 : Int).toNat) HO_530001.out (by omega)
            have hy44 : y531.length = (t530 : Int).toNat := (by rw [Ny531.out, List.length_take]; omega)
            rw [← Ny531.out] at hr44
            rw [← hy44] at hr44 hcut44
            clear hy44 hi044 hsz44 HO_530001
            have HO533 := Aside0.mk hr44
            clear hr44
            have hok_ : (Value.slice Ao28 y531.length co28).ownBlock = (Value.slice Ao28 t525.length co28).ownBlock := by cases Ao28 <;> rfl
            (try rw [← hok_] at HO_522000)
            (try rw [← hok_] at HO_522001)
            (try rw [← hok_] at HO_530000)
            clear hok_
            replace q44 := eq_true q44
            refine hK.out _ _ ⟨(blk_cell BK529.out 0).trans rfl, (blk_cell BK529.out 1).trans rfl⟩ (fun hHeld => ?_)
            clear hK K
            have n0_ := Aside0.mk (Kd.R_drewN HO_522000.out nd)
            have n1_ := Aside0.mk (Kd.R_drewN HO_522001.out nd)
            have n2_ := Aside0.mk (Kd.R_drewN HO_530000.out nd)
            have n3_ := Aside0.mk (Kd.R_drewN HO533.out nd)
            have n4_ := Aside0.mk (blk_drewN BK521.out nd)
            have n5_ := Aside0.mk (blk_drewN BK529.out nd)
            have n6_ := Aside0.mk (bd HB.out nd)
            clear HO_522000 HO_522001 HO_530000 HO533 BK521 BK529 HB
            have HO_522000 := n0_
            have HO_522001 := n1_
            have HO_530000 := n2_
            have HO533 := n3_
            have BK521 := n4_
            have BK529 := n5_
            have HB := n6_
            clear n0_ n1_ n2_ n3_ n4_ n5_ n6_
            generalize w43.drewN nd = w43 at HO_522000 HO_522001 HO_530000 HO533 BK521 BK529 HB hHeld ⊢
            refine norm_ (a' := ?_) ?_ ?_
            rotate_left
            ·show Act.put _ (some 53) _ = _
             simp only [Act.put, List.setIfInBounds_toArray, List.set_cons_zero, List.set_cons_succ, i64_w, i32_w]
             rfl
            refine pure_ (i := 7) (N := some 54) (v := ?_) (a' := ?_) #[true, true, true, true, true, true, true, true, false, false] rfl rfl (any_of HT_.out (by kernel_rfl)) (fun _ _ _ h => h) (Or.inl ⟨by rfl, ?_⟩) ?_ ?_
            rotate_left
            ·intro w'
             go_simp
             with_reducible rfl
            rotate_left
            ·simp only [Act.put, List.setIfInBounds_toArray, List.set_cons_zero, List.set_cons_succ, i64_w, i32_w]
             rfl
            refine pure_ (i := 8) (N := some 55) (v := ?_) (a' := ?_) #[true, true, true, true, true, true, true, true, true, false] rfl rfl (any_of HT_.out (by kernel_rfl)) (fun _ _ _ h => h) (Or.inl ⟨by rfl, ?_⟩) ?_ ?_
            rotate_left
            ·intro w'
             go_simp
             with_reducible rfl
            rotate_left
            ·simp only [Act.put, List.setIfInBounds_toArray, List.set_cons_zero, List.set_cons_succ, i64_w, i32_w]
             rfl
            refine last_ (i := 9) (N := none) #[true, true, true, true, true, true, true, true, true, true] rfl rfl (one_of HT_.out (by kernel_rfl)) (by decide) (fun K hK => ?_)
            have hs45 : w43.cell? ⟨gb529, 1, none⟩ = some (.slice Ao28 t525.length co28) := (blk_cell BK529.out 1).trans rfl
            have hfs45 := blk_frozen BK529.out 1
            have hns45_0 := NB521_529.out
            have hms45_0 := NB529_521.out
            refine skip_ (w1 := ?_) (by rfl) rfl ?_ ?_
            rotate_left
            ·go_simp
             rfl
            refine hK.out _ _ ?_
            clear hK K
            refine done_ (done_of HT_.out (by kernel_rfl)) ?_
            have n0_ : Aside0 (Kd.R (Kd.int .u8) 5 (w43.setCell ⟨gb529, 1, none⟩ (.slice Ao28 y531.length co28)) w.heap.size (fun k_ => some k_ ≠ (.slice Ao20 t517.length co20 : Value).ownBlock ∧ some k_ ≠ (.slice Ao25 t522.length co25 : Value).ownBlock ∧ some k_ ≠ (.slice Ao28 y531.length co28 : Value).ownBlock) (.slice Ao18 t514.length co18) t514) := ⟨by (with_reducible repeat (first | apply Kd.R_alloc | apply Kd.R_drewN | apply Kd.R_drew)); exact Kd.R_mono (Kd.R_far (p := ⟨gb529, 1, none⟩) (Kd.R_types HO_522000.out BK529.out (by decide)) (fun _ hk => hk.2) (.slice Ao28 y531.length co28)) (fun _ hk => ⟨hk.1.1, ⟨hk.1.2.1, hk.1.2.2⟩⟩)⟩
            have n1_ : Aside0 (Kd.R (Kd.int .u8) 5 (w43.setCell ⟨gb529, 1, none⟩ (.slice Ao28 y531.length co28)) w.heap.size (fun k_ => some k_ ≠ (.slice Ao18 t514.length co18 : Value).ownBlock ∧ some k_ ≠ (.slice Ao25 t522.length co25 : Value).ownBlock ∧ some k_ ≠ (.slice Ao28 y531.length co28 : Value).ownBlock) (.slice Ao20 t517.length co20) t517) := ⟨by (with_reducible repeat (first | apply Kd.R_alloc | apply Kd.R_drewN | apply Kd.R_drew)); exact Kd.R_mono (Kd.R_far (p := ⟨gb529, 1, none⟩) (Kd.R_types HO_522001.out BK529.out (by decide)) (fun _ hk => hk.2) (.slice Ao28 y531.length co28)) (fun _ hk => ⟨hk.1.1, ⟨hk.1.2.1, hk.1.2.2⟩⟩)⟩
            have n2_ : Aside0 (Kd.R (Kd.int .u8) 5 (w43.setCell ⟨gb529, 1, none⟩ (.slice Ao28 y531.length co28)) w.heap.size (fun k_ => some k_ ≠ (.slice Ao18 t514.length co18 : Value).ownBlock ∧ some k_ ≠ (.slice Ao20 t517.length co20 : Value).ownBlock ∧ some k_ ≠ (.slice Ao28 y531.length co28 : Value).ownBlock) (.slice Ao25 t522.length co25) t522) := ⟨by (with_reducible repeat (first | apply Kd.R_alloc | apply Kd.R_drewN | apply Kd.R_drew)); exact Kd.R_mono (Kd.R_far (p := ⟨gb529, 1, none⟩) (Kd.R_types HO_530000.out BK529.out (by decide)) (fun _ hk => hk.2) (.slice Ao28 y531.length co28)) (fun _ hk => ⟨hk.1.1, ⟨hk.1.2.1, hk.1.2.2⟩⟩)⟩
            have n3_ : Aside0 (Kd.R (Kd.int .u8) 5 (w43.setCell ⟨gb529, 1, none⟩ (.slice Ao28 y531.length co28)) w.heap.size (fun k_ => some k_ ≠ (.slice Ao18 t514.length co18 : Value).ownBlock ∧ some k_ ≠ (.slice Ao20 t517.length co20 : Value).ownBlock ∧ some k_ ≠ (.slice Ao25 t522.length co25 : Value).ownBlock) (.slice Ao28 y531.length co28) y531) := ⟨by (with_reducible repeat (first | apply Kd.R_alloc | apply Kd.R_drewN | apply Kd.R_drew)); exact Kd.R_mono (Kd.R_far (p := ⟨gb529, 1, none⟩) (Kd.R_types HO533.out BK529.out (by decide)) (fun _ hk => hk.2) (.slice Ao28 y531.length co28)) (fun _ hk => ⟨hk.1.1, ⟨hk.1.2.1, hk.1.2.2⟩⟩)⟩
            have n4_ : Aside0 ((w43.setCell ⟨gb529, 1, none⟩ (.slice Ao28 y531.length co28)).heap[gb521]? = some (.cells #[.slice Ao18 t514.length co18, .slice Ao20 t517.length co20] 24 (0, 0))) := ⟨by (with_reducible repeat (first | refine blk_drewN ?_ _ | refine blk_drew ?_ | refine blk_alloc ?_ _)); refine blk_far ?_ NB521_529.out _; (with_reducible repeat (first | refine blk_drewN ?_ _ | refine blk_drew ?_ | refine blk_alloc ?_ _)); exact BK521.out⟩
            have n5_ : Aside0 ((w43.setCell ⟨gb529, 1, none⟩ (.slice Ao28 y531.length co28)).heap[gb529]? = some (.cells #[.slice Ao25 t522.length co25, .slice Ao28 y531.length co28] 24 (0, 0))) := ⟨by (with_reducible repeat (first | refine blk_drewN ?_ _ | refine blk_drew ?_ | refine blk_alloc ?_ _)); refine blk_put (cs := #[.slice Ao25 t522.length co25, .slice Ao28 t525.length co28]) ?_ 1 _ rfl; (with_reducible repeat (first | refine blk_drewN ?_ _ | refine blk_drew ?_ | refine blk_alloc ?_ _)); exact BK529.out⟩
            have n6_ : Aside0 (Below w.heap.size w (w43.setCell ⟨gb529, 1, none⟩ (.slice Ao28 y531.length co28))) := ⟨by repeat (first | (with_reducible first | exact HB.out | apply ba | apply bd | apply be | refine below_set ?_ GE521.out | refine below_set ?_ GE529.out) | exact HB.out)⟩
            (try clear HO_522000)
            (try clear HO_522001)
            (try clear HO_530000)
            (try clear HO533)
            (try clear BK521)
            (try clear BK529)
            (try clear HB)
            generalize (w43.setCell ⟨gb529, 1, none⟩ (.slice Ao28 y531.length co28)) = w46 at n0_ n1_ n2_ n3_ n4_ n5_ n6_ ⊢
            have HO_522000 := n0_
            have HO_522001 := n1_
            have HO_530000 := n2_
            have HO533 := n3_
            have BK521 := n4_
            have BK529 := n5_
            have HB := n6_
            clear n0_ n1_ n2_ n3_ n4_ n5_ n6_
            have hnb47 := NB529_521.out
            have hnc47 := NB521_529.out
            have hcz48_0 : w46.cell? ⟨gb529, 0, none⟩ = some (.slice Ao25 t522.length co25) := (blk_cell BK529.out 0).trans rfl
            have hcz48_1 : w46.cell? ⟨gb529, 1, none⟩ = some (.slice Ao28 y531.length co28) := (blk_cell BK529.out 1).trans rfl
            have hfz48_0 := blk_frozen BK529.out 0
            have hfz48_1 := blk_frozen BK529.out 1
            try go_wp2_with (first | ((with_reducible refine gate_callee (f := 8) rfl ?_); refine goesL_ (some 58) rfl rfl Try.func8 (by kernel_rfl) rfl #[.agg #[.slice Ao25 t522.length co25, .slice Ao28 y531.length co28]] rfl (by (try simp only [List.map_toArray, List.map_cons, List.map_nil]); first | done | rfl | (simp only [List.length_drop, List.length_take]; rfl)) ?_; (with_reducible refine (stable_Read.calls kj11 _ _ t522 _ _ y531 t534 t537 t538 _ ?side1 ?side2 ?side3 ?side4 A38.out).mono ?_); (case side1 => repeat (first | exact (Kd.R_reads' HO_530000.out).2.2 | (with_reducible refine Kd.C_alloc ?_ _) | (with_reducible refine Kd.C_drewN ?_ _) | (with_reducible refine Kd.C_drew ?_))); (case side2 => exact (Kd.R_reads' HO_530000.out).2.1); (case side3 => repeat (first | exact (Kd.R_reads' HO533.out).2.2 | (with_reducible refine Kd.C_alloc ?_ _) | (with_reducible refine Kd.C_drewN ?_ _) | (with_reducible refine Kd.C_drew ?_))); (case side4 => exact (Kd.R_reads' HO533.out).2.1); rintro e w49 ⟨v535, rfl, ho0, hb⟩; refine ⟨_, rfl, ?_⟩; have n0_ := Aside0.mk (Kd.R_elder' (by (with_reducible repeat (first | apply Kd.R_alloc | apply Kd.R_drewN | apply Kd.R_drew)); exact HO_522000.out) (Kd.R_base ho0) hb); have n1_ := Aside0.mk (Kd.R_elder' (by (with_reducible repeat (first | apply Kd.R_alloc | apply Kd.R_drewN | apply Kd.R_drew)); exact HO_522001.out) (Kd.R_base ho0) hb); have n2_ := Aside0.mk (Kd.R_elder' (by (with_reducible repeat (first | apply Kd.R_alloc | apply Kd.R_drewN | apply Kd.R_drew)); exact HO_530000.out) (Kd.R_base ho0) hb); have n3_ := Aside0.mk (Kd.R_elder' (by (with_reducible repeat (first | apply Kd.R_alloc | apply Kd.R_drewN | apply Kd.R_drew)); exact HO533.out) (Kd.R_base ho0) hb); have n4_ := Aside0.mk (Kd.R_lower (Kd.R_new' (Kd.R_new' (Kd.R_new' (Kd.R_new' ho0 (Kd.R_lt (by (with_reducible repeat (first | apply Kd.R_alloc | apply Kd.R_drewN | apply Kd.R_drew)); exact HO_522000.out))) (Kd.R_lt (by (with_reducible repeat (first | apply Kd.R_alloc | apply Kd.R_drewN | apply Kd.R_drew)); exact HO_522001.out))) (Kd.R_lt (by (with_reducible repeat (first | apply Kd.R_alloc | apply Kd.R_drewN | apply Kd.R_drew)); exact HO_530000.out))) (Kd.R_lt (by (with_reducible repeat (first | apply Kd.R_alloc | apply Kd.R_drewN | apply Kd.R_drew)); exact HO533.out))) (below_size (by repeat (first | (with_reducible first | exact HB.out | apply ba | apply bd | apply be | refine below_set ?_ GE521.out | refine below_set ?_ GE529.out) | exact HB.out)))); have n5_ := Aside0.mk (blk_below (g := gb521) (o := .cells #[.slice Ao18 t514.length co18, .slice Ao20 t517.length co20] 24 (0, 0)) (by (with_reducible repeat (first | refine blk_drewN ?_ _ | refine blk_drew ?_ | refine blk_alloc ?_ _)); exact BK521.out) hb); have n6_ := Aside0.mk (blk_below (g := gb529) (o := .cells #[.slice Ao25 t522.length co25, .slice Ao28 y531.length co28] 24 (0, 0)) (by (with_reducible repeat (first | refine blk_drewN ?_ _ | refine blk_drew ?_ | refine blk_alloc ?_ _)); exact BK529.out) hb); have n7_ := Aside0.mk (below_step (by repeat (first | (with_reducible first | exact HB.out | apply ba | apply bd | apply be | refine below_set ?_ GE521.out | refine below_set ?_ GE529.out) | exact HB.out)) hb); clear HO_522000; clear HO_522001; clear HO_530000; clear HO533; clear BK521; clear BK529; clear HB; have HO_522000 := n0_; have HO_522001 := n1_; have HO_530000 := n2_; have HO533 := n3_; have HO536 := n4_; have BK521 := n5_; have BK529 := n6_; have HB := n7_; clear n0_ n1_ n2_ n3_ n4_ n5_ n6_ n7_; (try clear hb); (try clear hb2); (try clear hk); (try clear hi); (try clear ho0)) | ((with_reducible refine gate_callee (f := 7) rfl ?_); refine goesL_ (some 62) rfl rfl Try.func7 (by kernel_rfl) rfl #[] rfl (by (try simp only [List.map_toArray, List.map_cons, List.map_nil]); first | done | rfl | (simp only [List.length_drop, List.length_take]; rfl)) ?_; (with_reducible refine (clusterlockslaw26_awake.calls kj11  true _ A39.out).mono ?_); rintro e w50 ⟨rfl, hb⟩; refine ⟨_, rfl, ?_⟩; have n0_ := Aside0.mk (Kd.R_below (by (with_reducible repeat (first | apply Kd.R_alloc | apply Kd.R_drewN | apply Kd.R_drew)); exact HO_522000.out) hb); have n1_ := Aside0.mk (Kd.R_below (by (with_reducible repeat (first | apply Kd.R_alloc | apply Kd.R_drewN | apply Kd.R_drew)); exact HO_522001.out) hb); have n2_ := Aside0.mk (Kd.R_below (by (with_reducible repeat (first | apply Kd.R_alloc | apply Kd.R_drewN | apply Kd.R_drew)); exact HO_530000.out) hb); have n3_ := Aside0.mk (Kd.R_below (by (with_reducible repeat (first | apply Kd.R_alloc | apply Kd.R_drewN | apply Kd.R_drew)); exact HO533.out) hb); have n4_ := Aside0.mk (Kd.R_below (by (with_reducible repeat (first | apply Kd.R_alloc | apply Kd.R_drewN | apply Kd.R_drew)); exact HO536.out) hb); have n5_ := Aside0.mk (blk_below (g := gb521) (o := .cells #[.slice Ao18 t514.length co18, .slice Ao20 t517.length co20] 24 (0, 0)) (by (with_reducible repeat (first | refine blk_drewN ?_ _ | refine blk_drew ?_ | refine blk_alloc ?_ _)); exact BK521.out) hb); have n6_ := Aside0.mk (blk_below (g := gb529) (o := .cells #[.slice Ao25 t522.length co25, .slice Ao28 y531.length co28] 24 (0, 0)) (by (with_reducible repeat (first | refine blk_drewN ?_ _ | refine blk_drew ?_ | refine blk_alloc ?_ _)); exact BK529.out) hb); have n7_ := Aside0.mk (below_step (by repeat (first | (with_reducible first | exact HB.out | apply ba | apply bd | apply be | refine below_set ?_ GE521.out | refine below_set ?_ GE529.out) | exact HB.out)) hb); clear HO_522000; clear HO_522001; clear HO_530000; clear HO533; clear HO536; clear BK521; clear BK529; clear HB; have HO_522000 := n0_; have HO_522001 := n1_; have HO_530000 := n2_; have HO533 := n3_; have HO536 := n4_; have BK521 := n5_; have BK529 := n6_; have HB := n7_; clear n0_ n1_ n2_ n3_ n4_ n5_ n6_ n7_; (try clear hb); (try clear hb2); (try clear hk); (try clear hi); have hcv51 := own_string (P := Try.prog) Try.underlying22 Try.underlying5 Try.underlying9 (Kd.own_of_R HO536.out); have hcv52 := Kd.C_string (P := Try.prog) (A := A0) (c := c0) Try.underlying22 Try.underlying5 Try.underlying9 (Kd.C_below HR0.out HB.out); have hcv53 := fun (nq_ : Nat) => Kd.C_string (P := Try.prog) (A := A0) (c := c0) Try.underlying22 Try.underlying5 Try.underlying9 (Kd.C_drewN (Kd.C_below HR0.out HB.out) nq_)))
            go_ret
            exact ⟨by first | rfl | (simp [errW_none, errW_some] <;> rfl) | (simp [*, errW_none, errW_some] <;> rfl), by repeat (first | (with_reducible first | exact HB.out | apply ba | apply bd | apply be | refine below_set ?_ GE521.out | refine below_set ?_ GE529.out) | exact HB.out)⟩
           ·rw [if_neg c42] at H
            exact absurd H (by simp)
          ·rw [if_neg c41] at H
           exact absurd H (by simp)
         ·replace c40 := Bool.eq_false_iff.mpr c40
          subst c40
          have H1 : (none) = some r := by rw [if_neg (show ¬ (false = true) by decide)] at H; exact H
          clear H
          have H := H1
          clear H1
          exact absurd H (by simp)
        ·rw [if_neg c37] at H
         exact absurd H (by simp)
       ·rw [if_neg c36] at H
        exact absurd H (by simp)

/-- THE ONE PURE STATEMENT of clusterlockslaw26_StableDamage: yours. -/
def clusterlockslaw26_StableDamage.Pure : Prop := ∀ (l0 : List Int) (l1 : List Int) (a2 : Int), l0.length ≤ maxLen → l0.length * 1 ≤ 140737488351232 → (∀ x ∈ l0, (Lit.int .u8 x).wf = true) → l1.length ≤ maxLen → l1.length * 1 ≤ 140737488351232 → (∀ x ∈ l1, (Lit.int .u8 x).wf = true) → (Lit.int .i64 a2).wf = true → ∃ k, clusterlockslaw26_StableDamage.f k l0 l1 a2 = some true
theorem clusterlockslaw26_StableDamage.walk (P : clusterlockslaw26_StableDamage.Pure) (a0 : Option Addr) (len0 cap0 : Nat) (z0 : List Int) (a1 : Option Addr) (len1 cap1 : Nat) (z1 : List Int) (a2 : Int) (w : World) (w0 : (a0 = none ∧ len0 = 0 ∧ cap0 = 0 ∧ z0 = []) ∨ ∃ x, a0 = some x ∧ len0 ≤ cap0 ∧ cap0 ≤ maxLen ∧ z0.length = cap0 ∧ (∀ i, i < z0.length → w.cell? (x.add i) = some (.int .u8 (z0.getD i 0))) ∧ ∀ n ∈ z0, (Lit.int .u8 n).wf = true) (y0 : len0 * 1 ≤ 140737488351232) (w1 : (a1 = none ∧ len1 = 0 ∧ cap1 = 0 ∧ z1 = []) ∨ ∃ x, a1 = some x ∧ len1 ≤ cap1 ∧ cap1 ≤ maxLen ∧ z1.length = cap1 ∧ (∀ i, i < z1.length → w.cell? (x.add i) = some (.int .u8 (z1.getD i 0))) ∧ ∀ n ∈ z1, (Lit.int .u8 n).wf = true) (y1 : len1 * 1 ≤ 140737488351232) (w2 : (Lit.int .i64 a2).wf = true) :
  Calls Try.prog 6 #[.slice a0 len0 cap0, .slice a1 len1 cap1, .int .i64 a2] w fun e w' => e = .returned (.bool true) ∧ Below w.heap.size w w' := by
 obtain ⟨l0, rfl, hr0, hm0, hw0, hc0⟩ := ReadsInt.ofRowC w0
 obtain ⟨l1, rfl, hr1, hm1, hw1, hc1⟩ := ReadsInt.ofRowC w1
 obtain ⟨k, h⟩ := P l0 l1 a2 hm0 y0 hw0 hm1 y1 hw1 w2
 refine (clusterlockslaw26_StableDamage.calls k _ _ l0 _ _ l1 a2 true w (Kd.C_of_reads (d := (0 : Int)) (h1 := fun _ => rfl) hr0) hc0 (Kd.C_of_reads (d := (0 : Int)) (h1 := fun _ => rfl) hr1) hc1 h).mono ?_
 rintro e w' ⟨rfl, hd⟩
 exact ⟨rfl, hd⟩

end Go.Proofs.Ytjdicbffpbpenaa.Y

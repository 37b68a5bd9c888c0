-- Laid by a program of this session's (xprint.py, which runs the kit's print.py with patches of its own). Lean checks it.
import Derived.Test.YtnhdppfmdhdmdaaY0
import Derived.Test.YtnhdppfmdhdmdaaY1
import Derived.Test.YtnhdppfmdhdmdaaY2
import Derived.Test.YtnhdppfmdhdmdaaY3
namespace Go.Proofs.Ytnhdppfmdhdmdaa.Y
open Go.RowKit Go.Proofs.YtnhdppfmdhdmdaaW.PrintWords Go.Proofs.YtnhdppfmdhdmdaaW.PrintLast Go.Proofs.YtnhdppfmdhdmdaaW.PrintMore
attribute [local go_sem] max2_int min2_int max_two min_two max_three min_three max_four min_four   -- for this text's walks alone
set_option linter.unusedVariables false
set_option linter.unusedSimpArgs false

/-! ### clusterlockslaw23_ChannelActs: function 5 -/
mutual
def clusterlockslaw23_ChannelActs.j0 : Nat → List (List Int) → List Int → Int → Int → Int → Bool → Option (Bool)
 | 0, _, _, _, _, _, _ => none
 | k + 1, x0, x1, x2, x3, x4, x41 => if x41 = true then ((clusterlockslaw23_awake.f k).bind fun t227 => (some t227)) else ((channel_Send.f k x0 x1).bind fun bt228 => ((clusterlocksref23_Send.f k x0 x1).bind fun bt232 => ((channel_Deliver.f k x0 x2).bind fun bt236 => ((clusterlocksref23_Deliver.f k x0 x2).bind fun bt243 => ((channel_Lose.f k x0 x2).bind fun bt250 => ((clusterlocksref23_Lose.f k x0 x2).bind fun bt254 => ((channel_Double.f k x0 x2).bind fun bt258 => ((clusterlocksref23_Double.f k x0 x2).bind fun bt262 => ((channel_Spoil.f k x0 x2 x3 x4).bind fun bt266 => ((clusterlocksref23_Spoil.f k x0 x2 x3 x4).bind fun bt270 => (if bt228.2 = bt232.2 then (if bt236.2.2 = bt243.2.2 then (if bt250.2 = bt254.2 then (if bt258.2 = bt262.2 then (clusterlockslaw23_ChannelActs.j1 k x0 bt228.1 bt232.1 bt236.1 bt236.2.1 bt243.1 bt243.2.1 bt250.1 bt254.1 bt258.1 bt262.1 bt266.1 bt270.1 (bt266.2 == bt270.2)) else (clusterlockslaw23_ChannelActs.j1 k x0 bt228.1 bt232.1 bt236.1 bt236.2.1 bt243.1 bt243.2.1 bt250.1 bt254.1 bt258.1 bt262.1 bt266.1 bt270.1 false)) else (clusterlockslaw23_ChannelActs.j1 k x0 bt228.1 bt232.1 bt236.1 bt236.2.1 bt243.1 bt243.2.1 bt250.1 bt254.1 bt258.1 bt262.1 bt266.1 bt270.1 false)) else (clusterlockslaw23_ChannelActs.j1 k x0 bt228.1 bt232.1 bt236.1 bt236.2.1 bt243.1 bt243.2.1 bt250.1 bt254.1 bt258.1 bt262.1 bt266.1 bt270.1 false)) else (clusterlockslaw23_ChannelActs.j1 k x0 bt228.1 bt232.1 bt236.1 bt236.2.1 bt243.1 bt243.2.1 bt250.1 bt254.1 bt258.1 bt262.1 bt266.1 bt270.1 false))))))))))))
def clusterlockslaw23_ChannelActs.j1 : Nat → List (List Int) → List (List Int) → List (List Int) → List Int → List (List Int) → List Int → List (List Int) → List (List Int) → List (List Int) → List (List Int) → List (List Int) → List (List Int) → List (List Int) → Bool → Option (Bool)
 | 0, _, _, _, _, _, _, _, _, _, _, _, _, _, _ => none
 | k + 1, x0, x11, x13, x15, x16, x18, x19, x21, x23, x25, x27, x29, x31, x33 => (clusterlockslaw23_awake.f k).bind fun t274 => (if t274 = true then (if x33 = true then ((channel_Valid.f x0).bind fun t275 => ((clusterlocksref23_Valid.f k x0).bind fun t276 => (if (t275 == t276) = true then ((clusterlocksref23_Same.f k x11 x13).bind fun t277 => (if t277 = true then (if (strOfNums x15).toList = (strOfNums x18).toList then ((clusterlocksref23_Same.f k x16 x19).bind fun t278 => (if t278 = true then ((clusterlocksref23_Same.f k x21 x23).bind fun t279 => (if t279 = true then ((clusterlocksref23_Same.f k x25 x27).bind fun t280 => (if t280 = true then ((clusterlocksref23_Same.f k x29 x31).bind fun t281 => (some t281)) else (none))) else (none))) else (none))) else (none)) else (none))) else (none)))) else (none)) else (none))
end
def clusterlockslaw23_ChannelActs.f (k : Nat) (l0 : List (List Int)) (l1 : List Int) (a2 : Int) (a3 : Int) (a4 : Int) : Option (Bool) := (clusterlockslaw23_short.f k l0).bind fun t226 => (if t226 = true then (clusterlockslaw23_ChannelActs.j0 k l0 l1 a2 a3 a4 (decide ((l1.length : Int) > 10000))) else (clusterlockslaw23_ChannelActs.j0 k l0 l1 a2 a3 a4 true))
theorem clusterlockslaw23_ChannelActs.mono_l : ∀ k, (∀ y0 y1 y2 y3 y4 y5, LeO (clusterlockslaw23_ChannelActs.j0 k y0 y1 y2 y3 y4 y5) (clusterlockslaw23_ChannelActs.j0 (k + 1) y0 y1 y2 y3 y4 y5)) ∧ (∀ y0 y1 y2 y3 y4 y5 y6 y7 y8 y9 y10 y11 y12 y13, LeO (clusterlockslaw23_ChannelActs.j1 k y0 y1 y2 y3 y4 y5 y6 y7 y8 y9 y10 y11 y12 y13) (clusterlockslaw23_ChannelActs.j1 (k + 1) y0 y1 y2 y3 y4 y5 y6 y7 y8 y9 y10 y11 y12 y13))
 | 0 => ⟨fun _ _ _ _ _ _ r h => by simp [clusterlockslaw23_ChannelActs.j0] at h, fun _ _ _ _ _ _ _ _ _ _ _ _ _ _ r h => by simp [clusterlockslaw23_ChannelActs.j1] at h⟩
 | k + 1 => by
  obtain ⟨ih0, ih1⟩ := clusterlockslaw23_ChannelActs.mono_l k
  refine ⟨?_, ?_⟩
  ·intro y0 y1 y2 y3 y4 y5
   unfold clusterlockslaw23_ChannelActs.j0
   repeat' first
   | (with_reducible exact ih0 _ _ _ _ _ _)
   | (with_reducible exact ih1 _ _ _ _ _ _ _ _ _ _ _ _ _ _)
   | (with_reducible exact channel_Deliver.mono _ _ _)
   | (with_reducible exact channel_Double.mono _ _ _)
   | (with_reducible exact channel_Lose.mono _ _ _)
   | (with_reducible exact channel_Send.mono _ _ _)
   | (with_reducible exact channel_Spoil.mono _ _ _ _ _)
   | (with_reducible exact clusterlockslaw23_awake.mono _)
   | (with_reducible exact clusterlockslaw23_short.mono _ _)
   | (with_reducible exact clusterlocksref23_Deliver.mono _ _ _)
   | (with_reducible exact clusterlocksref23_Double.mono _ _ _)
   | (with_reducible exact clusterlocksref23_Lose.mono _ _ _)
   | (with_reducible exact clusterlocksref23_Same.mono _ _ _)
   | (with_reducible exact clusterlocksref23_Send.mono _ _ _)
   | (with_reducible exact clusterlocksref23_Spoil.mono _ _ _ _ _)
   | (with_reducible exact clusterlocksref23_Valid.mono _ _)
   | (with_reducible exact LeO.refl _)
   | (with_reducible exact LeO.none _)
   | (with_reducible refine LeO.ite ?_ ?_)
   | (with_reducible refine LeO.bind ?_ (fun _ => ?_))
   | exact ih0 _ _ _ _ _ _
   | exact ih1 _ _ _ _ _ _ _ _ _ _ _ _ _ _
   | exact channel_Deliver.mono _ _ _
   | exact channel_Double.mono _ _ _
   | exact channel_Lose.mono _ _ _
   | exact channel_Send.mono _ _ _
   | exact channel_Spoil.mono _ _ _ _ _
   | exact clusterlockslaw23_awake.mono _
   | exact clusterlockslaw23_short.mono _ _
   | exact clusterlocksref23_Deliver.mono _ _ _
   | exact clusterlocksref23_Double.mono _ _ _
   | exact clusterlocksref23_Lose.mono _ _ _
   | exact clusterlocksref23_Same.mono _ _ _
   | exact clusterlocksref23_Send.mono _ _ _
   | exact clusterlocksref23_Spoil.mono _ _ _ _ _
   | exact clusterlocksref23_Valid.mono _ _
   | exact LeO.none _
   | refine LeO.ite ?_ ?_
   | refine LeO.bind ?_ (fun _ => ?_)
  ·intro y0 y1 y2 y3 y4 y5 y6 y7 y8 y9 y10 y11 y12 y13
   unfold clusterlockslaw23_ChannelActs.j1
   repeat' first
   | (with_reducible exact ih0 _ _ _ _ _ _)
   | (with_reducible exact ih1 _ _ _ _ _ _ _ _ _ _ _ _ _ _)
   | (with_reducible exact channel_Deliver.mono _ _ _)
   | (with_reducible exact channel_Double.mono _ _ _)
   | (with_reducible exact channel_Lose.mono _ _ _)
   | (with_reducible exact channel_Send.mono _ _ _)
   | (with_reducible exact channel_Spoil.mono _ _ _ _ _)
   | (with_reducible exact clusterlockslaw23_awake.mono _)
   | (with_reducible exact clusterlockslaw23_short.mono _ _)
   | (with_reducible exact clusterlocksref23_Deliver.mono _ _ _)
   | (with_reducible exact clusterlocksref23_Double.mono _ _ _)
   | (with_reducible exact clusterlocksref23_Lose.mono _ _ _)
   | (with_reducible exact clusterlocksref23_Same.mono _ _ _)
   | (with_reducible exact clusterlocksref23_Send.mono _ _ _)
   | (with_reducible exact clusterlocksref23_Spoil.mono _ _ _ _ _)
   | (with_reducible exact clusterlocksref23_Valid.mono _ _)
   | (with_reducible exact LeO.refl _)
   | (with_reducible exact LeO.none _)
   | (with_reducible refine LeO.ite ?_ ?_)
   | (with_reducible refine LeO.bind ?_ (fun _ => ?_))
   | exact ih0 _ _ _ _ _ _
   | exact ih1 _ _ _ _ _ _ _ _ _ _ _ _ _ _
   | exact channel_Deliver.mono _ _ _
   | exact channel_Double.mono _ _ _
   | exact channel_Lose.mono _ _ _
   | exact channel_Send.mono _ _ _
   | exact channel_Spoil.mono _ _ _ _ _
   | exact clusterlockslaw23_awake.mono _
   | exact clusterlockslaw23_short.mono _ _
   | exact clusterlocksref23_Deliver.mono _ _ _
   | exact clusterlocksref23_Double.mono _ _ _
   | exact clusterlocksref23_Lose.mono _ _ _
   | exact clusterlocksref23_Same.mono _ _ _
   | exact clusterlocksref23_Send.mono _ _ _
   | exact clusterlocksref23_Spoil.mono _ _ _ _ _
   | exact clusterlocksref23_Valid.mono _ _
   | exact LeO.none _
   | refine LeO.ite ?_ ?_
   | refine LeO.bind ?_ (fun _ => ?_)
theorem clusterlockslaw23_ChannelActs.mono : ∀ a0 a1 a2 a3 a4 k, LeO (clusterlockslaw23_ChannelActs.f k a0 a1 a2 a3 a4) (clusterlockslaw23_ChannelActs.f (k + 1) a0 a1 a2 a3 a4) := by
 intro a0 a1 a2 a3 a4 k
 obtain ⟨ih0, ih1⟩ := clusterlockslaw23_ChannelActs.mono_l k
 unfold clusterlockslaw23_ChannelActs.f
 repeat' first
   | (with_reducible exact ih0 _ _ _ _ _ _)
   | (with_reducible exact ih1 _ _ _ _ _ _ _ _ _ _ _ _ _ _)
   | (with_reducible exact channel_Deliver.mono _ _ _)
   | (with_reducible exact channel_Double.mono _ _ _)
   | (with_reducible exact channel_Lose.mono _ _ _)
   | (with_reducible exact channel_Send.mono _ _ _)
   | (with_reducible exact channel_Spoil.mono _ _ _ _ _)
   | (with_reducible exact clusterlockslaw23_awake.mono _)
   | (with_reducible exact clusterlockslaw23_short.mono _ _)
   | (with_reducible exact clusterlocksref23_Deliver.mono _ _ _)
   | (with_reducible exact clusterlocksref23_Double.mono _ _ _)
   | (with_reducible exact clusterlocksref23_Lose.mono _ _ _)
   | (with_reducible exact clusterlocksref23_Same.mono _ _ _)
   | (with_reducible exact clusterlocksref23_Send.mono _ _ _)
   | (with_reducible exact clusterlocksref23_Spoil.mono _ _ _ _ _)
   | (with_reducible exact clusterlocksref23_Valid.mono _ _)
   | (with_reducible exact LeO.refl _)
   | (with_reducible exact LeO.none _)
   | (with_reducible refine LeO.ite ?_ ?_)
   | (with_reducible refine LeO.bind ?_ (fun _ => ?_))
   | exact ih0 _ _ _ _ _ _
   | exact ih1 _ _ _ _ _ _ _ _ _ _ _ _ _ _
   | exact channel_Deliver.mono _ _ _
   | exact channel_Double.mono _ _ _
   | exact channel_Lose.mono _ _ _
   | exact channel_Send.mono _ _ _
   | exact channel_Spoil.mono _ _ _ _ _
   | exact clusterlockslaw23_awake.mono _
   | exact clusterlockslaw23_short.mono _ _
   | exact clusterlocksref23_Deliver.mono _ _ _
   | exact clusterlocksref23_Double.mono _ _ _
   | exact clusterlocksref23_Lose.mono _ _ _
   | exact clusterlocksref23_Same.mono _ _ _
   | exact clusterlocksref23_Send.mono _ _ _
   | exact clusterlocksref23_Spoil.mono _ _ _ _ _
   | exact clusterlocksref23_Valid.mono _ _
   | exact LeO.none _
   | refine LeO.ite ?_ ?_
   | refine LeO.bind ?_ (fun _ => ?_)
set_option maxHeartbeats 8000000 in
set_option maxRecDepth 100000 in
theorem clusterlockslaw23_ChannelActs.calls (k : Nat) (A0 : Option Addr) (c0 : Nat) (l0 : List (List Int)) (A1 : Option Addr) (c1 : Nat) (l1 : List Int) (a2 : Int) (a3 : Int) (a4 : Int) (r : Bool) (w : World) (hr0 : Kd.C (Kd.slice 5 (Kd.int .u8)) w A0 l0.length l0) (hc0 : l0.length ≤ c0) (hr1 : Kd.C (Kd.int .u8) w A1 l1.length l1) (hc1 : l1.length ≤ c1) (h : clusterlockslaw23_ChannelActs.f k l0 l1 a2 a3 a4 = some r) :
  Calls Try.prog 5 #[.slice A0 l0.length c0, .slice A1 l1.length c1, .int .i64 a2, .int .i64 a3, .int .i64 a4] w fun e w' => e = .returned (.bool r) ∧ Below w.heap.size w w' := by
 have HR0 := Aside0.mk hr0
 have HC0 := Aside0.mk hc0
 clear hr0 hc0
 have HR1 := Aside0.mk hr1
 have HC1 := Aside0.mk hc1
 clear hr1 hc1
 have HB := am (Below.refl w.heap.size w)
 have H : ((clusterlockslaw23_short.f k l0).bind fun t226 => (if t226 = true then (clusterlockslaw23_ChannelActs.j0 k l0 l1 a2 a3 a4 (decide ((l1.length : Int) > 10000))) else (clusterlockslaw23_ChannelActs.j0 k l0 l1 a2 a3 a4 true))) = some r := h
 clear h
 have HC6 := Aside0.mk H
 clear H
 go_enter Try.func5, Try.ntmps5
 go_upto_region 1 with (fail)
 go_cut [41] (fun v41 wc => ∃ (kq : Nat) (x41_5 : Bool), v41 = .bool x41_5 ∧ Aside0 (clusterlockslaw23_ChannelActs.j0 kq l0 l1 a2 a3 a4 x41_5 = some r) ∧ Aside0 (kq ≤ k) ∧ Aside0 (Below w.heap.size w wc))
 case first =>
  have H := HC6.out
  clear HC6
  replace H := Option.bind_eq_some_iff.mp H
  obtain ⟨t226, A70, H⟩ := H
  replace H : (if t226 = true then (clusterlockslaw23_ChannelActs.j0 k l0 l1 a2 a3 a4 (decide ((l1.length : Int) > 10000))) else (clusterlockslaw23_ChannelActs.j0 k l0 l1 a2 a3 a4 true)) = some r := H
  have A7 := Aside0.mk A70
  clear A70
  by_cases c8 : t226 = true
  ·subst c8
   have H1 : (clusterlockslaw23_ChannelActs.j0 k l0 l1 a2 a3 a4 (decide ((l1.length : Int) > 10000))) = some r := by rw [if_pos rfl] at H; exact H
   clear H
   have H := H1
   clear H1
   have H' := Aside0.mk H
   clear H
   go_wp2_with (first | ((with_reducible refine gate_callee (f := 7) rfl ?_); refine goesL_ (some 35) rfl rfl Try.func7 (by kernel_rfl) rfl #[.slice A0 l0.length c0] rfl (by (try simp only [List.map_toArray, List.map_cons, List.map_nil]); first | done | rfl | (simp only [List.length_drop, List.length_take]; rfl)) ?_; (with_reducible refine (clusterlockslaw23_short.calls k _ _ l0 true _ ?side1 ?side2 A7.out).mono ?_); (case side1 => exact zC (Kd.C_below HR0.out HB.out)); (case side2 => exact HC0.out); rintro e w' ⟨rfl, ⟨nd, rfl⟩⟩; refine ⟨_, rfl, ?_⟩))
   go_meet
   case rel => exact ⟨_, (decide ((l1.length : Int) > 10000)), (by first | rfl | (simp; done) | (simp [*]; done)), H', ⟨by first | omega | exact Nat.le_refl _⟩, ⟨zL HB.out⟩⟩
  ·replace c8 := Bool.eq_false_iff.mpr c8
   subst c8
   have H1 : (clusterlockslaw23_ChannelActs.j0 k l0 l1 a2 a3 a4 true) = some r := by rw [if_neg (show ¬ (false = true) by decide)] at H; exact H
   clear H
   have H := H1
   clear H1
   have H' := Aside0.mk H
   clear H
   go_wp2_with (first | ((with_reducible refine gate_callee (f := 7) rfl ?_); refine goesL_ (some 35) rfl rfl Try.func7 (by kernel_rfl) rfl #[.slice A0 l0.length c0] rfl (by (try simp only [List.map_toArray, List.map_cons, List.map_nil]); first | done | rfl | (simp only [List.length_drop, List.length_take]; rfl)) ?_; (with_reducible refine (clusterlockslaw23_short.calls k _ _ l0 false _ ?side1 ?side2 A7.out).mono ?_); (case side1 => exact zC (Kd.C_below HR0.out HB.out)); (case side2 => exact HC0.out); rintro e w' ⟨rfl, ⟨nd, rfl⟩⟩; refine ⟨_, rfl, ?_⟩))
   go_meet
   case rel => exact ⟨_, (true), (by first | rfl | (simp; done) | (simp [*]; done)), H', ⟨by first | omega | exact Nat.le_refl _⟩, ⟨zL HB.out⟩⟩
 case rest =>
  clear HC6
  try clear c1
  try clear p2
  try clear c5
  try clear c7
  try clear c8
  obtain ⟨kq, x41_5, rfl, HA, HJ5, HB⟩ := hcut
  cases kq with
  | zero => exact absurd HA.out (by simp [clusterlockslaw23_ChannelActs.j0])
  | succ kj5 =>
   have H := HA.out
   clear HA
   simp only [clusterlockslaw23_ChannelActs.j0] at H
   by_cases c9 : x41_5 = true
   ·subst c9
    have H1 : ((clusterlockslaw23_awake.f kj5).bind fun t227 => (some t227)) = some r := by rw [if_pos rfl] at H; exact H
    clear H
    have H := H1
    clear H1
    replace H := Option.bind_eq_some_iff.mp H
    obtain ⟨t227, A100, H⟩ := H
    replace H : (some t227) = some r := H
    have A10 := Aside0.mk A100
    clear A100
    obtain rfl := Option.some.inj H
    go_wp2_with (first | ((with_reducible refine gate_callee (f := 8) rfl ?_); refine goesL_ (some 42) rfl rfl Try.func8 (by kernel_rfl) rfl #[] rfl (by (try simp only [List.map_toArray, List.map_cons, List.map_nil]); first | done | rfl | (simp only [List.length_drop, List.length_take]; rfl)) ?_; (with_reducible refine (clusterlockslaw23_awake.calls kj5  t227 _ A10.out).mono ?_); rintro e w11 ⟨rfl, hb⟩; refine ⟨_, rfl, ?_⟩; have n0_ := am (below_step (zL HB.out) hb); clear HB; have HB := n0_; clear n0_; (try clear hb); (try clear hb2); (try clear hk); (try clear hi)))
    go_ret
    exact ⟨by first | rfl | (simp [errW_none, errW_some] <;> rfl) | (simp [*, errW_none, errW_some] <;> rfl), zL HB.out⟩
   ·replace c9 := Bool.eq_false_iff.mpr c9
    subst c9
    have H1 : ((channel_Send.f kj5 l0 l1).bind fun bt228 => ((clusterlocksref23_Send.f kj5 l0 l1).bind fun bt232 => ((channel_Deliver.f kj5 l0 a2).bind fun bt236 => ((clusterlocksref23_Deliver.f kj5 l0 a2).bind fun bt243 => ((channel_Lose.f kj5 l0 a2).bind fun bt250 => ((clusterlocksref23_Lose.f kj5 l0 a2).bind fun bt254 => ((channel_Double.f kj5 l0 a2).bind fun bt258 => ((clusterlocksref23_Double.f kj5 l0 a2).bind fun bt262 => ((channel_Spoil.f kj5 l0 a2 a3 a4).bind fun bt266 => ((clusterlocksref23_Spoil.f kj5 l0 a2 a3 a4).bind fun bt270 => (if bt228.2 = bt232.2 then (if bt236.2.2 = bt243.2.2 then (if bt250.2 = bt254.2 then (if bt258.2 = bt262.2 then (clusterlockslaw23_ChannelActs.j1 kj5 l0 bt228.1 bt232.1 bt236.1 bt236.2.1 bt243.1 bt243.2.1 bt250.1 bt254.1 bt258.1 bt262.1 bt266.1 bt270.1 (bt266.2 == bt270.2)) else (clusterlockslaw23_ChannelActs.j1 kj5 l0 bt228.1 bt232.1 bt236.1 bt236.2.1 bt243.1 bt243.2.1 bt250.1 bt254.1 bt258.1 bt262.1 bt266.1 bt270.1 false)) else (clusterlockslaw23_ChannelActs.j1 kj5 l0 bt228.1 bt232.1 bt236.1 bt236.2.1 bt243.1 bt243.2.1 bt250.1 bt254.1 bt258.1 bt262.1 bt266.1 bt270.1 false)) else (clusterlockslaw23_ChannelActs.j1 kj5 l0 bt228.1 bt232.1 bt236.1 bt236.2.1 bt243.1 bt243.2.1 bt250.1 bt254.1 bt258.1 bt262.1 bt266.1 bt270.1 false)) else (clusterlockslaw23_ChannelActs.j1 kj5 l0 bt228.1 bt232.1 bt236.1 bt236.2.1 bt243.1 bt243.2.1 bt250.1 bt254.1 bt258.1 bt262.1 bt266.1 bt270.1 false)))))))))))) = some r := by rw [if_neg (show ¬ (false = true) by decide)] at H; exact H
    clear H
    have H := H1
    clear H1
    replace H := Option.bind_eq_some_iff.mp H
    obtain ⟨⟨t228, t229⟩, A120, H⟩ := H
    replace H : ((clusterlocksref23_Send.f kj5 l0 l1).bind fun bt232 => ((channel_Deliver.f kj5 l0 a2).bind fun bt236 => ((clusterlocksref23_Deliver.f kj5 l0 a2).bind fun bt243 => ((channel_Lose.f kj5 l0 a2).bind fun bt250 => ((clusterlocksref23_Lose.f kj5 l0 a2).bind fun bt254 => ((channel_Double.f kj5 l0 a2).bind fun bt258 => ((clusterlocksref23_Double.f kj5 l0 a2).bind fun bt262 => ((channel_Spoil.f kj5 l0 a2 a3 a4).bind fun bt266 => ((clusterlocksref23_Spoil.f kj5 l0 a2 a3 a4).bind fun bt270 => (if t229 = bt232.2 then (if bt236.2.2 = bt243.2.2 then (if bt250.2 = bt254.2 then (if bt258.2 = bt262.2 then (clusterlockslaw23_ChannelActs.j1 kj5 l0 t228 bt232.1 bt236.1 bt236.2.1 bt243.1 bt243.2.1 bt250.1 bt254.1 bt258.1 bt262.1 bt266.1 bt270.1 (bt266.2 == bt270.2)) else (clusterlockslaw23_ChannelActs.j1 kj5 l0 t228 bt232.1 bt236.1 bt236.2.1 bt243.1 bt243.2.1 bt250.1 bt254.1 bt258.1 bt262.1 bt266.1 bt270.1 false)) else (clusterlockslaw23_ChannelActs.j1 kj5 l0 t228 bt232.1 bt236.1 bt236.2.1 bt243.1 bt243.2.1 bt250.1 bt254.1 bt258.1 bt262.1 bt266.1 bt270.1 false)) else (clusterlockslaw23_ChannelActs.j1 kj5 l0 t228 bt232.1 bt236.1 bt236.2.1 bt243.1 bt243.2.1 bt250.1 bt254.1 bt258.1 bt262.1 bt266.1 bt270.1 false)) else (clusterlockslaw23_ChannelActs.j1 kj5 l0 t228 bt232.1 bt236.1 bt236.2.1 bt243.1 bt243.2.1 bt250.1 bt254.1 bt258.1 bt262.1 bt266.1 bt270.1 false))))))))))) = some r := H
    have A12 := Aside0.mk A120
    clear A120
    replace H := Option.bind_eq_some_iff.mp H
    obtain ⟨⟨t232, t233⟩, A130, H⟩ := H
    replace H : ((channel_Deliver.f kj5 l0 a2).bind fun bt236 => ((clusterlocksref23_Deliver.f kj5 l0 a2).bind fun bt243 => ((channel_Lose.f kj5 l0 a2).bind fun bt250 => ((clusterlocksref23_Lose.f kj5 l0 a2).bind fun bt254 => ((channel_Double.f kj5 l0 a2).bind fun bt258 => ((clusterlocksref23_Double.f kj5 l0 a2).bind fun bt262 => ((channel_Spoil.f kj5 l0 a2 a3 a4).bind fun bt266 => ((clusterlocksref23_Spoil.f kj5 l0 a2 a3 a4).bind fun bt270 => (if t229 = t233 then (if bt236.2.2 = bt243.2.2 then (if bt250.2 = bt254.2 then (if bt258.2 = bt262.2 then (clusterlockslaw23_ChannelActs.j1 kj5 l0 t228 t232 bt236.1 bt236.2.1 bt243.1 bt243.2.1 bt250.1 bt254.1 bt258.1 bt262.1 bt266.1 bt270.1 (bt266.2 == bt270.2)) else (clusterlockslaw23_ChannelActs.j1 kj5 l0 t228 t232 bt236.1 bt236.2.1 bt243.1 bt243.2.1 bt250.1 bt254.1 bt258.1 bt262.1 bt266.1 bt270.1 false)) else (clusterlockslaw23_ChannelActs.j1 kj5 l0 t228 t232 bt236.1 bt236.2.1 bt243.1 bt243.2.1 bt250.1 bt254.1 bt258.1 bt262.1 bt266.1 bt270.1 false)) else (clusterlockslaw23_ChannelActs.j1 kj5 l0 t228 t232 bt236.1 bt236.2.1 bt243.1 bt243.2.1 bt250.1 bt254.1 bt258.1 bt262.1 bt266.1 bt270.1 false)) else (clusterlockslaw23_ChannelActs.j1 kj5 l0 t228 t232 bt236.1 bt236.2.1 bt243.1 bt243.2.1 bt250.1 bt254.1 bt258.1 bt262.1 bt266.1 bt270.1 false)))))))))) = some r := H
    have A13 := Aside0.mk A130
    clear A130
    replace H := Option.bind_eq_some_iff.mp H
    obtain ⟨⟨t236, t239, t242⟩, A140, H⟩ := H
    replace H : ((clusterlocksref23_Deliver.f kj5 l0 a2).bind fun bt243 => ((channel_Lose.f kj5 l0 a2).bind fun bt250 => ((clusterlocksref23_Lose.f kj5 l0 a2).bind fun bt254 => ((channel_Double.f kj5 l0 a2).bind fun bt258 => ((clusterlocksref23_Double.f kj5 l0 a2).bind fun bt262 => ((channel_Spoil.f kj5 l0 a2 a3 a4).bind fun bt266 => ((clusterlocksref23_Spoil.f kj5 l0 a2 a3 a4).bind fun bt270 => (if t229 = t233 then (if t242 = bt243.2.2 then (if bt250.2 = bt254.2 then (if bt258.2 = bt262.2 then (clusterlockslaw23_ChannelActs.j1 kj5 l0 t228 t232 t236 t239 bt243.1 bt243.2.1 bt250.1 bt254.1 bt258.1 bt262.1 bt266.1 bt270.1 (bt266.2 == bt270.2)) else (clusterlockslaw23_ChannelActs.j1 kj5 l0 t228 t232 t236 t239 bt243.1 bt243.2.1 bt250.1 bt254.1 bt258.1 bt262.1 bt266.1 bt270.1 false)) else (clusterlockslaw23_ChannelActs.j1 kj5 l0 t228 t232 t236 t239 bt243.1 bt243.2.1 bt250.1 bt254.1 bt258.1 bt262.1 bt266.1 bt270.1 false)) else (clusterlockslaw23_ChannelActs.j1 kj5 l0 t228 t232 t236 t239 bt243.1 bt243.2.1 bt250.1 bt254.1 bt258.1 bt262.1 bt266.1 bt270.1 false)) else (clusterlockslaw23_ChannelActs.j1 kj5 l0 t228 t232 t236 t239 bt243.1 bt243.2.1 bt250.1 bt254.1 bt258.1 bt262.1 bt266.1 bt270.1 false))))))))) = some r := H
    have A14 := Aside0.mk A140
    clear A140
    replace H := Option.bind_eq_some_iff.mp H
    obtain ⟨⟨t243, t246, t249⟩, A150, H⟩ := H
    replace H : ((channel_Lose.f kj5 l0 a2).bind fun bt250 => ((clusterlocksref23_Lose.f kj5 l0 a2).bind fun bt254 => ((channel_Double.f kj5 l0 a2).bind fun bt258 => ((clusterlocksref23_Double.f kj5 l0 a2).bind fun bt262 => ((channel_Spoil.f kj5 l0 a2 a3 a4).bind fun bt266 => ((clusterlocksref23_Spoil.f kj5 l0 a2 a3 a4).bind fun bt270 => (if t229 = t233 then (if t242 = t249 then (if bt250.2 = bt254.2 then (if bt258.2 = bt262.2 then (clusterlockslaw23_ChannelActs.j1 kj5 l0 t228 t232 t236 t239 t243 t246 bt250.1 bt254.1 bt258.1 bt262.1 bt266.1 bt270.1 (bt266.2 == bt270.2)) else (clusterlockslaw23_ChannelActs.j1 kj5 l0 t228 t232 t236 t239 t243 t246 bt250.1 bt254.1 bt258.1 bt262.1 bt266.1 bt270.1 false)) else (clusterlockslaw23_ChannelActs.j1 kj5 l0 t228 t232 t236 t239 t243 t246 bt250.1 bt254.1 bt258.1 bt262.1 bt266.1 bt270.1 false)) else (clusterlockslaw23_ChannelActs.j1 kj5 l0 t228 t232 t236 t239 t243 t246 bt250.1 bt254.1 bt258.1 bt262.1 bt266.1 bt270.1 false)) else (clusterlockslaw23_ChannelActs.j1 kj5 l0 t228 t232 t236 t239 t243 t246 bt250.1 bt254.1 bt258.1 bt262.1 bt266.1 bt270.1 false)))))))) = some r := H
    have A15 := Aside0.mk A150
    clear A150
    replace H := Option.bind_eq_some_iff.mp H
    obtain ⟨⟨t250, t253⟩, A160, H⟩ := H
    replace H : ((clusterlocksref23_Lose.f kj5 l0 a2).bind fun bt254 => ((channel_Double.f kj5 l0 a2).bind fun bt258 => ((clusterlocksref23_Double.f kj5 l0 a2).bind fun bt262 => ((channel_Spoil.f kj5 l0 a2 a3 a4).bind fun bt266 => ((clusterlocksref23_Spoil.f kj5 l0 a2 a3 a4).bind fun bt270 => (if t229 = t233 then (if t242 = t249 then (if t253 = bt254.2 then (if bt258.2 = bt262.2 then (clusterlockslaw23_ChannelActs.j1 kj5 l0 t228 t232 t236 t239 t243 t246 t250 bt254.1 bt258.1 bt262.1 bt266.1 bt270.1 (bt266.2 == bt270.2)) else (clusterlockslaw23_ChannelActs.j1 kj5 l0 t228 t232 t236 t239 t243 t246 t250 bt254.1 bt258.1 bt262.1 bt266.1 bt270.1 false)) else (clusterlockslaw23_ChannelActs.j1 kj5 l0 t228 t232 t236 t239 t243 t246 t250 bt254.1 bt258.1 bt262.1 bt266.1 bt270.1 false)) else (clusterlockslaw23_ChannelActs.j1 kj5 l0 t228 t232 t236 t239 t243 t246 t250 bt254.1 bt258.1 bt262.1 bt266.1 bt270.1 false)) else (clusterlockslaw23_ChannelActs.j1 kj5 l0 t228 t232 t236 t239 t243 t246 t250 bt254.1 bt258.1 bt262.1 bt266.1 bt270.1 false))))))) = some r := H
    have A16 := Aside0.mk A160
    clear A160
    replace H := Option.bind_eq_some_iff.mp H
    obtain ⟨⟨t254, t257⟩, A170, H⟩ := H
    replace H : ((channel_Double.f kj5 l0 a2).bind fun bt258 => ((clusterlocksref23_Double.f kj5 l0 a2).bind fun bt262 => ((channel_Spoil.f kj5 l0 a2 a3 a4).bind fun bt266 => ((clusterlocksref23_Spoil.f kj5 l0 a2 a3 a4).bind fun bt270 => (if t229 = t233 then (if t242 = t249 then (if t253 = t257 then (if bt258.2 = bt262.2 then (clusterlockslaw23_ChannelActs.j1 kj5 l0 t228 t232 t236 t239 t243 t246 t250 t254 bt258.1 bt262.1 bt266.1 bt270.1 (bt266.2 == bt270.2)) else (clusterlockslaw23_ChannelActs.j1 kj5 l0 t228 t232 t236 t239 t243 t246 t250 t254 bt258.1 bt262.1 bt266.1 bt270.1 false)) else (clusterlockslaw23_ChannelActs.j1 kj5 l0 t228 t232 t236 t239 t243 t246 t250 t254 bt258.1 bt262.1 bt266.1 bt270.1 false)) else (clusterlockslaw23_ChannelActs.j1 kj5 l0 t228 t232 t236 t239 t243 t246 t250 t254 bt258.1 bt262.1 bt266.1 bt270.1 false)) else (clusterlockslaw23_ChannelActs.j1 kj5 l0 t228 t232 t236 t239 t243 t246 t250 t254 bt258.1 bt262.1 bt266.1 bt270.1 false)))))) = some r := H
    have A17 := Aside0.mk A170
    clear A170
    replace H := Option.bind_eq_some_iff.mp H
    obtain ⟨⟨t258, t259⟩, A180, H⟩ := H
    replace H : ((clusterlocksref23_Double.f kj5 l0 a2).bind fun bt262 => ((channel_Spoil.f kj5 l0 a2 a3 a4).bind fun bt266 => ((clusterlocksref23_Spoil.f kj5 l0 a2 a3 a4).bind fun bt270 => (if t229 = t233 then (if t242 = t249 then (if t253 = t257 then (if t259 = bt262.2 then (clusterlockslaw23_ChannelActs.j1 kj5 l0 t228 t232 t236 t239 t243 t246 t250 t254 t258 bt262.1 bt266.1 bt270.1 (bt266.2 == bt270.2)) else (clusterlockslaw23_ChannelActs.j1 kj5 l0 t228 t232 t236 t239 t243 t246 t250 t254 t258 bt262.1 bt266.1 bt270.1 false)) else (clusterlockslaw23_ChannelActs.j1 kj5 l0 t228 t232 t236 t239 t243 t246 t250 t254 t258 bt262.1 bt266.1 bt270.1 false)) else (clusterlockslaw23_ChannelActs.j1 kj5 l0 t228 t232 t236 t239 t243 t246 t250 t254 t258 bt262.1 bt266.1 bt270.1 false)) else (clusterlockslaw23_ChannelActs.j1 kj5 l0 t228 t232 t236 t239 t243 t246 t250 t254 t258 bt262.1 bt266.1 bt270.1 false))))) = some r := H
    have A18 := Aside0.mk A180
    clear A180
    replace H := Option.bind_eq_some_iff.mp H
    obtain ⟨⟨t262, t263⟩, A190, H⟩ := H
    replace H : ((channel_Spoil.f kj5 l0 a2 a3 a4).bind fun bt266 => ((clusterlocksref23_Spoil.f kj5 l0 a2 a3 a4).bind fun bt270 => (if t229 = t233 then (if t242 = t249 then (if t253 = t257 then (if t259 = t263 then (clusterlockslaw23_ChannelActs.j1 kj5 l0 t228 t232 t236 t239 t243 t246 t250 t254 t258 t262 bt266.1 bt270.1 (bt266.2 == bt270.2)) else (clusterlockslaw23_ChannelActs.j1 kj5 l0 t228 t232 t236 t239 t243 t246 t250 t254 t258 t262 bt266.1 bt270.1 false)) else (clusterlockslaw23_ChannelActs.j1 kj5 l0 t228 t232 t236 t239 t243 t246 t250 t254 t258 t262 bt266.1 bt270.1 false)) else (clusterlockslaw23_ChannelActs.j1 kj5 l0 t228 t232 t236 t239 t243 t246 t250 t254 t258 t262 bt266.1 bt270.1 false)) else (clusterlockslaw23_ChannelActs.j1 kj5 l0 t228 t232 t236 t239 t243 t246 t250 t254 t258 t262 bt266.1 bt270.1 false)))) = some r := H
    have A19 := Aside0.mk A190
    clear A190
    replace H := Option.bind_eq_some_iff.mp H
    obtain ⟨⟨t266, t267⟩, A200, H⟩ := H
    replace H : ((clusterlocksref23_Spoil.f kj5 l0 a2 a3 a4).bind fun bt270 => (if t229 = t233 then (if t242 = t249 then (if t253 = t257 then (if t259 = t263 then (clusterlockslaw23_ChannelActs.j1 kj5 l0 t228 t232 t236 t239 t243 t246 t250 t254 t258 t262 t266 bt270.1 (t267 == bt270.2)) else (clusterlockslaw23_ChannelActs.j1 kj5 l0 t228 t232 t236 t239 t243 t246 t250 t254 t258 t262 t266 bt270.1 false)) else (clusterlockslaw23_ChannelActs.j1 kj5 l0 t228 t232 t236 t239 t243 t246 t250 t254 t258 t262 t266 bt270.1 false)) else (clusterlockslaw23_ChannelActs.j1 kj5 l0 t228 t232 t236 t239 t243 t246 t250 t254 t258 t262 t266 bt270.1 false)) else (clusterlockslaw23_ChannelActs.j1 kj5 l0 t228 t232 t236 t239 t243 t246 t250 t254 t258 t262 t266 bt270.1 false))) = some r := H
    have A20 := Aside0.mk A200
    clear A200
    replace H := Option.bind_eq_some_iff.mp H
    obtain ⟨⟨t270, t271⟩, A210, H⟩ := H
    replace H : (if t229 = t233 then (if t242 = t249 then (if t253 = t257 then (if t259 = t263 then (clusterlockslaw23_ChannelActs.j1 kj5 l0 t228 t232 t236 t239 t243 t246 t250 t254 t258 t262 t266 t270 (t267 == t271)) else (clusterlockslaw23_ChannelActs.j1 kj5 l0 t228 t232 t236 t239 t243 t246 t250 t254 t258 t262 t266 t270 false)) else (clusterlockslaw23_ChannelActs.j1 kj5 l0 t228 t232 t236 t239 t243 t246 t250 t254 t258 t262 t266 t270 false)) else (clusterlockslaw23_ChannelActs.j1 kj5 l0 t228 t232 t236 t239 t243 t246 t250 t254 t258 t262 t266 t270 false)) else (clusterlockslaw23_ChannelActs.j1 kj5 l0 t228 t232 t236 t239 t243 t246 t250 t254 t258 t262 t266 t270 false)) = some r := H
    have A21 := Aside0.mk A210
    clear A210
    have HC22 := Aside0.mk H
    clear H
    go_upto_region 13 with (first | ((with_reducible refine gate_callee (f := 9) rfl ?_); refine goesL_ (some 46) rfl rfl Try.func9 (by kernel_rfl) rfl #[.slice A0 l0.length c0, .slice A1 l1.length c1] rfl (by (try simp only [List.map_toArray, List.map_cons, List.map_nil]); first | done | rfl | (simp only [List.length_drop, List.length_take]; rfl)) ?_; (with_reducible refine (channel_Send.calls kj5 _ _ l0 _ _ l1 t228 t229 _ ?side1 ?side2 ?side3 ?side4 A12.out).mono ?_); (case side1 => exact zC (Kd.C_below HR0.out HB.out)); (case side2 => exact HC0.out); (case side3 => exact zC (Kd.C_below HR1.out HB.out)); (case side4 => exact HC1.out); rintro e w23 ⟨v230, rfl, ho0, hb⟩; refine ⟨_, rfl, ?_⟩; have n0_ := am (Kd.S_lower ho0 (below_size (zL HB.out))); have n1_ := am (below_step (zL HB.out) hb); clear HB; have HO231 := n0_; have HB := n1_; clear n0_ n1_; (try clear hb); (try clear hb2); (try clear hk); (try clear hi); (try clear ho0)) | ((with_reducible refine gate_callee (f := 16) rfl ?_); refine goesL_ (some 52) rfl rfl Try.func16 (by kernel_rfl) rfl #[.slice A0 l0.length c0, .slice A1 l1.length c1] rfl (by (try simp only [List.map_toArray, List.map_cons, List.map_nil]); first | done | rfl | (simp only [List.length_drop, List.length_take]; rfl)) ?_; (with_reducible refine (clusterlocksref23_Send.calls kj5 _ _ l0 _ _ l1 t232 t233 _ ?side1 ?side2 ?side3 ?side4 A13.out).mono ?_); (case side1 => exact zC (Kd.C_below HR0.out HB.out)); (case side2 => exact HC0.out); (case side3 => exact zC (Kd.C_below HR1.out HB.out)); (case side4 => exact HC1.out); rintro e w24 ⟨v234, rfl, ho0, hb⟩; refine ⟨_, rfl, ?_⟩; have n0_ := am (Kd.S_elder' (by (with_reducible repeat (first | apply Kd.S_alloc | apply Kd.S_drewN | apply Kd.S_drew)); exact HO231.out) (Kd.S_base ho0) hb); have n1_ := am (Kd.S_lower (Kd.S_new' ho0 (Kd.S_lt (by (with_reducible repeat (first | apply Kd.S_alloc | apply Kd.S_drewN | apply Kd.S_drew)); exact HO231.out))) (below_size (zL HB.out))); have n2_ := am (below_step (zL HB.out) hb); clear HO231 HB; have HO231 := n0_; have HO235 := n1_; have HB := n2_; clear n0_ n1_ n2_; (try clear hb); (try clear hb2); (try clear hk); (try clear hi); (try clear ho0)) | ((with_reducible refine gate_callee (f := 10) rfl ?_); refine goesL_ (some 58) rfl rfl Try.func10 (by kernel_rfl) rfl #[.slice A0 l0.length c0, .int .i64 a2] rfl (by (try simp only [List.map_toArray, List.map_cons, List.map_nil]); first | done | rfl | (simp only [List.length_drop, List.length_take]; rfl)) ?_; (with_reducible refine (channel_Deliver.calls kj5 _ _ l0 a2 t236 t239 t242 _ ?side1 ?side2 A14.out).mono ?_); (case side1 => exact zC (Kd.C_below HR0.out HB.out)); (case side2 => exact HC0.out); rintro e w25 ⟨v237, v240, rfl, ho0, ho1, hb⟩; refine ⟨_, rfl, ?_⟩; have n0_ := am (Kd.S_elder' (by (with_reducible repeat (first | apply Kd.S_alloc | apply Kd.S_drewN | apply Kd.S_drew)); exact HO231.out) (Kd.R_base ho0) hb); have n1_ := am (Kd.S_elder' (by (with_reducible repeat (first | apply Kd.S_alloc | apply Kd.S_drewN | apply Kd.S_drew)); exact HO235.out) (Kd.R_base ho0) hb); have n2_ := am (Kd.R_lower (Kd.R_mono (ok' := fun k_ => True) ho0 (fun _ hk_ => trivial)) (below_size (zL HB.out))); have n3_ := am (Kd.V_lower (Kd.V_mono (ok' := fun k_ => some k_ ≠ (v237 : Value).ownBlock ∧ some k_ ≠ (v230 : Value).ownBlock ∧ some k_ ≠ (v234 : Value).ownBlock) ho1 (fun k_ hk_ => ⟨hk_.2, (Kd.fresh' (Kd.S_lt (by (with_reducible repeat (first | apply Kd.S_alloc | apply Kd.S_drewN | apply Kd.S_drew)); exact HO231.out)) k_ hk_.1), (Kd.fresh' (Kd.S_lt (by (with_reducible repeat (first | apply Kd.S_alloc | apply Kd.S_drewN | apply Kd.S_drew)); exact HO235.out)) k_ hk_.1)⟩)) (below_size (zL HB.out))); have n4_ := am (below_step (zL HB.out) hb); clear HO231 HO235 HB; have HO231 := n0_; have HO235 := n1_; have HO238 := n2_; have HO241 := n3_; have HB := n4_; clear n0_ n1_ n2_ n3_ n4_; (try clear hb); (try clear hb2); (try clear hk); (try clear hi); (try clear ho0); (try clear ho1)) | ((with_reducible refine gate_callee (f := 17) rfl ?_); refine goesL_ (some 65) rfl rfl Try.func17 (by kernel_rfl) rfl #[.slice A0 l0.length c0, .int .i64 a2] rfl (by (try simp only [List.map_toArray, List.map_cons, List.map_nil]); first | done | rfl | (simp only [List.length_drop, List.length_take]; rfl)) ?_; (with_reducible refine (clusterlocksref23_Deliver.calls kj5 _ _ l0 a2 t243 t246 t249 _ ?side1 ?side2 A15.out).mono ?_); (case side1 => exact zC (Kd.C_below HR0.out HB.out)); (case side2 => exact HC0.out); rintro e w26 ⟨v244, v247, rfl, ho0, ho1, hb⟩; refine ⟨_, rfl, ?_⟩; have n0_ := am (Kd.S_elder' (by (with_reducible repeat (first | apply Kd.S_alloc | apply Kd.S_drewN | apply Kd.S_drew)); exact HO231.out) (Kd.R_base ho0) hb); have n1_ := am (Kd.S_elder' (by (with_reducible repeat (first | apply Kd.S_alloc | apply Kd.S_drewN | apply Kd.S_drew)); exact HO235.out) (Kd.R_base ho0) hb); have n2_ := am (Kd.R_elder' (zR HO238.out) (Kd.R_base ho0) hb); have n3_ := am (Kd.V_elder' (by (with_reducible repeat (first | apply Kd.V_alloc | apply Kd.V_drewN | apply Kd.V_drew)); exact HO241.out) (Kd.R_base ho0) hb); have n4_ := am (Kd.R_lower (Kd.R_new' (Kd.R_mono (ok' := fun k_ => True) ho0 (fun _ hk_ => trivial)) (Kd.R_lt (zR HO238.out))) (below_size (zL HB.out))); have n5_ := am (Kd.V_lower (Kd.V_mono (ok' := fun k_ => some k_ ≠ (v244 : Value).ownBlock ∧ some k_ ≠ (v230 : Value).ownBlock ∧ some k_ ≠ (v234 : Value).ownBlock ∧ some k_ ≠ (v237 : Value).ownBlock) ho1 (fun k_ hk_ => ⟨hk_.2, (Kd.fresh' (Kd.S_lt (by (with_reducible repeat (first | apply Kd.S_alloc | apply Kd.S_drewN | apply Kd.S_drew)); exact HO231.out)) k_ hk_.1), (Kd.fresh' (Kd.S_lt (by (with_reducible repeat (first | apply Kd.S_alloc | apply Kd.S_drewN | apply Kd.S_drew)); exact HO235.out)) k_ hk_.1), (Kd.fresh' (Kd.R_lt (zR HO238.out)) k_ hk_.1)⟩)) (below_size (zL HB.out))); have n6_ := am (below_step (zL HB.out) hb); clear HO231 HO235 HO238 HO241 HB; have HO231 := n0_; have HO235 := n1_; have HO238 := n2_; have HO241 := n3_; have HO245 := n4_; have HO248 := n5_; have HB := n6_; clear n0_ n1_ n2_ n3_ n4_ n5_ n6_; (try clear hb); (try clear hb2); (try clear hk); (try clear hi); (try clear ho0); (try clear ho1)) | ((with_reducible refine gate_callee (f := 18) rfl ?_); refine goesL_ (some 72) rfl rfl Try.func18 (by kernel_rfl) rfl #[.slice A0 l0.length c0, .int .i64 a2] rfl (by (try simp only [List.map_toArray, List.map_cons, List.map_nil]); first | done | rfl | (simp only [List.length_drop, List.length_take]; rfl)) ?_; (with_reducible refine (channel_Lose.calls kj5 _ _ l0 a2 t250 t253 _ ?side1 ?side2 A16.out).mono ?_); (case side1 => exact zC (Kd.C_below HR0.out HB.out)); (case side2 => exact HC0.out); rintro e w27 ⟨v251, rfl, ho0, hb⟩; refine ⟨_, rfl, ?_⟩; have n0_ := am (Kd.S_below (by (with_reducible repeat (first | apply Kd.S_alloc | apply Kd.S_drewN | apply Kd.S_drew)); exact HO231.out) hb); have n1_ := am (Kd.S_below (by (with_reducible repeat (first | apply Kd.S_alloc | apply Kd.S_drewN | apply Kd.S_drew)); exact HO235.out) hb); have n2_ := am (Kd.R_below (zR HO238.out) hb); have n3_ := am (Kd.V_below (by (with_reducible repeat (first | apply Kd.V_alloc | apply Kd.V_drewN | apply Kd.V_drew)); exact HO241.out) hb); have n4_ := am (Kd.R_below (zR HO245.out) hb); have n5_ := am (Kd.V_below (by (with_reducible repeat (first | apply Kd.V_alloc | apply Kd.V_drewN | apply Kd.V_drew)); exact HO248.out) hb); have n6_ := am (Kd.V_lower (Kd.V_mono (ok' := fun k_ => some k_ ≠ (v230 : Value).ownBlock ∧ some k_ ≠ (v234 : Value).ownBlock ∧ some k_ ≠ (v237 : Value).ownBlock ∧ some k_ ≠ (v244 : Value).ownBlock) ho0 (fun k_ hk_ => ⟨(Kd.fresh' (Kd.S_lt (by (with_reducible repeat (first | apply Kd.S_alloc | apply Kd.S_drewN | apply Kd.S_drew)); exact HO231.out)) k_ hk_), (Kd.fresh' (Kd.S_lt (by (with_reducible repeat (first | apply Kd.S_alloc | apply Kd.S_drewN | apply Kd.S_drew)); exact HO235.out)) k_ hk_), (Kd.fresh' (Kd.R_lt (zR HO238.out)) k_ hk_), (Kd.fresh' (Kd.R_lt (zR HO245.out)) k_ hk_)⟩)) (below_size (zL HB.out))); have n7_ := am (below_step (zL HB.out) hb); clear HO231 HO235 HO238 HO241 HO245 HO248 HB; have HO231 := n0_; have HO235 := n1_; have HO238 := n2_; have HO241 := n3_; have HO245 := n4_; have HO248 := n5_; have HO252 := n6_; have HB := n7_; clear n0_ n1_ n2_ n3_ n4_ n5_ n6_ n7_; (try clear hb); (try clear hb2); (try clear hk); (try clear hi); (try clear ho0)) | ((with_reducible refine gate_callee (f := 19) rfl ?_); refine goesL_ (some 78) rfl rfl Try.func19 (by kernel_rfl) rfl #[.slice A0 l0.length c0, .int .i64 a2] rfl (by (try simp only [List.map_toArray, List.map_cons, List.map_nil]); first | done | rfl | (simp only [List.length_drop, List.length_take]; rfl)) ?_; (with_reducible refine (clusterlocksref23_Lose.calls kj5 _ _ l0 a2 t254 t257 _ ?side1 ?side2 A17.out).mono ?_); (case side1 => exact zC (Kd.C_below HR0.out HB.out)); (case side2 => exact HC0.out); rintro e w28 ⟨v255, rfl, ho0, hb⟩; refine ⟨_, rfl, ?_⟩; have n0_ := am (Kd.S_below (by (with_reducible repeat (first | apply Kd.S_alloc | apply Kd.S_drewN | apply Kd.S_drew)); exact HO231.out) hb); have n1_ := am (Kd.S_below (by (with_reducible repeat (first | apply Kd.S_alloc | apply Kd.S_drewN | apply Kd.S_drew)); exact HO235.out) hb); have n2_ := am (Kd.R_below (zR HO238.out) hb); have n3_ := am (Kd.V_below (by (with_reducible repeat (first | apply Kd.V_alloc | apply Kd.V_drewN | apply Kd.V_drew)); exact HO241.out) hb); have n4_ := am (Kd.R_below (zR HO245.out) hb); have n5_ := am (Kd.V_below (by (with_reducible repeat (first | apply Kd.V_alloc | apply Kd.V_drewN | apply Kd.V_drew)); exact HO248.out) hb); have n6_ := am (Kd.V_below (by (with_reducible repeat (first | apply Kd.V_alloc | apply Kd.V_drewN | apply Kd.V_drew)); exact HO252.out) hb); have n7_ := am (Kd.V_lower (Kd.V_mono (ok' := fun k_ => some k_ ≠ (v230 : Value).ownBlock ∧ some k_ ≠ (v234 : Value).ownBlock ∧ some k_ ≠ (v237 : Value).ownBlock ∧ some k_ ≠ (v244 : Value).ownBlock) ho0 (fun k_ hk_ => ⟨(Kd.fresh' (Kd.S_lt (by (with_reducible repeat (first | apply Kd.S_alloc | apply Kd.S_drewN | apply Kd.S_drew)); exact HO231.out)) k_ hk_), (Kd.fresh' (Kd.S_lt (by (with_reducible repeat (first | apply Kd.S_alloc | apply Kd.S_drewN | apply Kd.S_drew)); exact HO235.out)) k_ hk_), (Kd.fresh' (Kd.R_lt (zR HO238.out)) k_ hk_), (Kd.fresh' (Kd.R_lt (zR HO245.out)) k_ hk_)⟩)) (below_size (zL HB.out))); have n8_ := am (below_step (zL HB.out) hb); clear HO231 HO235 HO238 HO241 HO245 HO248 HO252 HB; have HO231 := n0_; have HO235 := n1_; have HO238 := n2_; have HO241 := n3_; have HO245 := n4_; have HO248 := n5_; have HO252 := n6_; have HO256 := n7_; have HB := n8_; clear n0_ n1_ n2_ n3_ n4_ n5_ n6_ n7_ n8_; (try clear hb); (try clear hb2); (try clear hk); (try clear hi); (try clear ho0)) | ((with_reducible refine gate_callee (f := 14) rfl ?_); refine goesL_ (some 84) rfl rfl Try.func14 (by kernel_rfl) rfl #[.slice A0 l0.length c0, .int .i64 a2] rfl (by (try simp only [List.map_toArray, List.map_cons, List.map_nil]); first | done | rfl | (simp only [List.length_drop, List.length_take]; rfl)) ?_; (with_reducible refine (channel_Double.calls kj5 _ _ l0 a2 t258 t259 _ ?side1 ?side2 A18.out).mono ?_); (case side1 => exact zC (Kd.C_below HR0.out HB.out)); (case side2 => exact HC0.out); rintro e w29 ⟨v260, rfl, ho0, hb⟩; refine ⟨_, rfl, ?_⟩; have n0_ := am (Kd.S_elder' (by (with_reducible repeat (first | apply Kd.S_alloc | apply Kd.S_drewN | apply Kd.S_drew)); exact HO231.out) (Kd.S_base ho0) hb); have n1_ := am (Kd.S_elder' (by (with_reducible repeat (first | apply Kd.S_alloc | apply Kd.S_drewN | apply Kd.S_drew)); exact HO235.out) (Kd.S_base ho0) hb); have n2_ := am (Kd.R_below (zR HO238.out) hb); have n3_ := am (Kd.V_elder' (by (with_reducible repeat (first | apply Kd.V_alloc | apply Kd.V_drewN | apply Kd.V_drew)); exact HO241.out) (Kd.S_base ho0) hb); have n4_ := am (Kd.R_below (zR HO245.out) hb); have n5_ := am (Kd.V_elder' (by (with_reducible repeat (first | apply Kd.V_alloc | apply Kd.V_drewN | apply Kd.V_drew)); exact HO248.out) (Kd.S_base ho0) hb); have n6_ := am (Kd.V_elder' (by (with_reducible repeat (first | apply Kd.V_alloc | apply Kd.V_drewN | apply Kd.V_drew)); exact HO252.out) (Kd.S_base ho0) hb); have n7_ := am (Kd.V_elder' (by (with_reducible repeat (first | apply Kd.V_alloc | apply Kd.V_drewN | apply Kd.V_drew)); exact HO256.out) (Kd.S_base ho0) hb); have n8_ := am (Kd.S_lower (Kd.S_new' (Kd.S_new' (Kd.S_new' (Kd.S_new' ho0 (Kd.S_lt (by (with_reducible repeat (first | apply Kd.S_alloc | apply Kd.S_drewN | apply Kd.S_drew)); exact HO231.out))) (Kd.S_lt (by (with_reducible repeat (first | apply Kd.S_alloc | apply Kd.S_drewN | apply Kd.S_drew)); exact HO235.out))) (Kd.R_lt (zR HO238.out))) (Kd.R_lt (zR HO245.out))) (below_size (zL HB.out))); have n9_ := am (below_step (zL HB.out) hb); clear HO231 HO235 HO238 HO241 HO245 HO248 HO252 HO256 HB; have HO231 := n0_; have HO235 := n1_; have HO238 := n2_; have HO241 := n3_; have HO245 := n4_; have HO248 := n5_; have HO252 := n6_; have HO256 := n7_; have HO261 := n8_; have HB := n9_; clear n0_ n1_ n2_ n3_ n4_ n5_ n6_ n7_ n8_ n9_; (try clear hb); (try clear hb2); (try clear hk); (try clear hi); (try clear ho0)) | ((with_reducible refine gate_callee (f := 20) rfl ?_); refine goesL_ (some 90) rfl rfl Try.func20 (by kernel_rfl) rfl #[.slice A0 l0.length c0, .int .i64 a2] rfl (by (try simp only [List.map_toArray, List.map_cons, List.map_nil]); first | done | rfl | (simp only [List.length_drop, List.length_take]; rfl)) ?_; (with_reducible refine (clusterlocksref23_Double.calls kj5 _ _ l0 a2 t262 t263 _ ?side1 ?side2 A19.out).mono ?_); (case side1 => exact zC (Kd.C_below HR0.out HB.out)); (case side2 => exact HC0.out); rintro e w30 ⟨v264, rfl, ho0, hb⟩; refine ⟨_, rfl, ?_⟩; have n0_ := am (Kd.S_elder' (by (with_reducible repeat (first | apply Kd.S_alloc | apply Kd.S_drewN | apply Kd.S_drew)); exact HO231.out) (Kd.S_base ho0) hb); have n1_ := am (Kd.S_elder' (by (with_reducible repeat (first | apply Kd.S_alloc | apply Kd.S_drewN | apply Kd.S_drew)); exact HO235.out) (Kd.S_base ho0) hb); have n2_ := am (Kd.R_below (zR HO238.out) hb); have n3_ := am (Kd.V_elder' (by (with_reducible repeat (first | apply Kd.V_alloc | apply Kd.V_drewN | apply Kd.V_drew)); exact HO241.out) (Kd.S_base ho0) hb); have n4_ := am (Kd.R_below (zR HO245.out) hb); have n5_ := am (Kd.V_elder' (by (with_reducible repeat (first | apply Kd.V_alloc | apply Kd.V_drewN | apply Kd.V_drew)); exact HO248.out) (Kd.S_base ho0) hb); have n6_ := am (Kd.V_elder' (by (with_reducible repeat (first | apply Kd.V_alloc | apply Kd.V_drewN | apply Kd.V_drew)); exact HO252.out) (Kd.S_base ho0) hb); have n7_ := am (Kd.V_elder' (by (with_reducible repeat (first | apply Kd.V_alloc | apply Kd.V_drewN | apply Kd.V_drew)); exact HO256.out) (Kd.S_base ho0) hb); have n8_ := am (Kd.S_elder' (by (with_reducible repeat (first | apply Kd.S_alloc | apply Kd.S_drewN | apply Kd.S_drew)); exact HO261.out) (Kd.S_base ho0) hb); have n9_ := am (Kd.S_lower (Kd.S_new' (Kd.S_new' (Kd.S_new' (Kd.S_new' (Kd.S_new' ho0 (Kd.S_lt (by (with_reducible repeat (first | apply Kd.S_alloc | apply Kd.S_drewN | apply Kd.S_drew)); exact HO231.out))) (Kd.S_lt (by (with_reducible repeat (first | apply Kd.S_alloc | apply Kd.S_drewN | apply Kd.S_drew)); exact HO235.out))) (Kd.R_lt (zR HO238.out))) (Kd.R_lt (zR HO245.out))) (Kd.S_lt (by (with_reducible repeat (first | apply Kd.S_alloc | apply Kd.S_drewN | apply Kd.S_drew)); exact HO261.out))) (below_size (zL HB.out))); have n10_ := am (below_step (zL HB.out) hb); clear HO231 HO235 HO238 HO241 HO245 HO248 HO252 HO256 HO261 HB; have HO231 := n0_; have HO235 := n1_; have HO238 := n2_; have HO241 := n3_; have HO245 := n4_; have HO248 := n5_; have HO252 := n6_; have HO256 := n7_; have HO261 := n8_; have HO265 := n9_; have HB := n10_; clear n0_ n1_ n2_ n3_ n4_ n5_ n6_ n7_ n8_ n9_ n10_; (try clear hb); (try clear hb2); (try clear hk); (try clear hi); (try clear ho0)) | ((with_reducible refine gate_callee (f := 13) rfl ?_); refine goesL_ (some 98) rfl rfl Try.func13 (by kernel_rfl) rfl #[.slice A0 l0.length c0, .int .i64 a2, .int .i64 a3, .int .i64 a4] rfl (by (try simp only [List.map_toArray, List.map_cons, List.map_nil]); first | done | rfl | (simp only [List.length_drop, List.length_take]; rfl)) ?_; (with_reducible refine (channel_Spoil.calls kj5 _ _ l0 a2 a3 a4 t266 t267 _ ?side1 ?side2 A20.out).mono ?_); (case side1 => exact zC (Kd.C_below HR0.out HB.out)); (case side2 => exact HC0.out); rintro e w31 ⟨v268, rfl, ho0, hb⟩; refine ⟨_, rfl, ?_⟩; have n0_ := am (Kd.S_elder' (by (with_reducible repeat (first | apply Kd.S_alloc | apply Kd.S_drewN | apply Kd.S_drew)); exact HO231.out) (Kd.S_base ho0) hb); have n1_ := am (Kd.S_elder' (by (with_reducible repeat (first | apply Kd.S_alloc | apply Kd.S_drewN | apply Kd.S_drew)); exact HO235.out) (Kd.S_base ho0) hb); have n2_ := am (Kd.R_below (zR HO238.out) hb); have n3_ := am (Kd.V_elder' (by (with_reducible repeat (first | apply Kd.V_alloc | apply Kd.V_drewN | apply Kd.V_drew)); exact HO241.out) (Kd.S_base ho0) hb); have n4_ := am (Kd.R_below (zR HO245.out) hb); have n5_ := am (Kd.V_elder' (by (with_reducible repeat (first | apply Kd.V_alloc | apply Kd.V_drewN | apply Kd.V_drew)); exact HO248.out) (Kd.S_base ho0) hb); have n6_ := am (Kd.V_elder' (by (with_reducible repeat (first | apply Kd.V_alloc | apply Kd.V_drewN | apply Kd.V_drew)); exact HO252.out) (Kd.S_base ho0) hb); have n7_ := am (Kd.V_elder' (by (with_reducible repeat (first | apply Kd.V_alloc | apply Kd.V_drewN | apply Kd.V_drew)); exact HO256.out) (Kd.S_base ho0) hb); have n8_ := am (Kd.S_elder' (by (with_reducible repeat (first | apply Kd.S_alloc | apply Kd.S_drewN | apply Kd.S_drew)); exact HO261.out) (Kd.S_base ho0) hb); have n9_ := am (Kd.S_elder' (by (with_reducible repeat (first | apply Kd.S_alloc | apply Kd.S_drewN | apply Kd.S_drew)); exact HO265.out) (Kd.S_base ho0) hb); have n10_ := am (Kd.S_lower (Kd.S_new' (Kd.S_new' (Kd.S_new' (Kd.S_new' (Kd.S_new' (Kd.S_new' ho0 (Kd.S_lt (by (with_reducible repeat (first | apply Kd.S_alloc | apply Kd.S_drewN | apply Kd.S_drew)); exact HO231.out))) (Kd.S_lt (by (with_reducible repeat (first | apply Kd.S_alloc | apply Kd.S_drewN | apply Kd.S_drew)); exact HO235.out))) (Kd.R_lt (zR HO238.out))) (Kd.R_lt (zR HO245.out))) (Kd.S_lt (by (with_reducible repeat (first | apply Kd.S_alloc | apply Kd.S_drewN | apply Kd.S_drew)); exact HO261.out))) (Kd.S_lt (by (with_reducible repeat (first | apply Kd.S_alloc | apply Kd.S_drewN | apply Kd.S_drew)); exact HO265.out))) (below_size (zL HB.out))); have n11_ := am (below_step (zL HB.out) hb); clear HO231 HO235 HO238 HO241 HO245 HO248 HO252 HO256 HO261 HO265 HB; have HO231 := n0_; have HO235 := n1_; have HO238 := n2_; have HO241 := n3_; have HO245 := n4_; have HO248 := n5_; have HO252 := n6_; have HO256 := n7_; have HO261 := n8_; have HO265 := n9_; have HO269 := n10_; have HB := n11_; clear n0_ n1_ n2_ n3_ n4_ n5_ n6_ n7_ n8_ n9_ n10_ n11_; (try clear hb); (try clear hb2); (try clear hk); (try clear hi); (try clear ho0)) | ((with_reducible refine gate_callee (f := 21) rfl ?_); refine goesL_ (some 106) rfl rfl Try.func21 (by kernel_rfl) rfl #[.slice A0 l0.length c0, .int .i64 a2, .int .i64 a3, .int .i64 a4] rfl (by (try simp only [List.map_toArray, List.map_cons, List.map_nil]); first | done | rfl | (simp only [List.length_drop, List.length_take]; rfl)) ?_; (with_reducible refine (clusterlocksref23_Spoil.calls kj5 _ _ l0 a2 a3 a4 t270 t271 _ ?side1 ?side2 A21.out).mono ?_); (case side1 => exact zC (Kd.C_below HR0.out HB.out)); (case side2 => exact HC0.out); rintro e w32 ⟨v272, rfl, ho0, hb⟩; refine ⟨_, rfl, ?_⟩; have n0_ := am (Kd.S_elder' (by (with_reducible repeat (first | apply Kd.S_alloc | apply Kd.S_drewN | apply Kd.S_drew)); exact HO231.out) (Kd.S_base ho0) hb); have n1_ := am (Kd.S_elder' (by (with_reducible repeat (first | apply Kd.S_alloc | apply Kd.S_drewN | apply Kd.S_drew)); exact HO235.out) (Kd.S_base ho0) hb); have n2_ := am (Kd.R_below (zR HO238.out) hb); have n3_ := am (Kd.V_elder' (by (with_reducible repeat (first | apply Kd.V_alloc | apply Kd.V_drewN | apply Kd.V_drew)); exact HO241.out) (Kd.S_base ho0) hb); have n4_ := am (Kd.R_below (zR HO245.out) hb); have n5_ := am (Kd.V_elder' (by (with_reducible repeat (first | apply Kd.V_alloc | apply Kd.V_drewN | apply Kd.V_drew)); exact HO248.out) (Kd.S_base ho0) hb); have n6_ := am (Kd.V_elder' (by (with_reducible repeat (first | apply Kd.V_alloc | apply Kd.V_drewN | apply Kd.V_drew)); exact HO252.out) (Kd.S_base ho0) hb); have n7_ := am (Kd.V_elder' (by (with_reducible repeat (first | apply Kd.V_alloc | apply Kd.V_drewN | apply Kd.V_drew)); exact HO256.out) (Kd.S_base ho0) hb); have n8_ := am (Kd.S_elder' (by (with_reducible repeat (first | apply Kd.S_alloc | apply Kd.S_drewN | apply Kd.S_drew)); exact HO261.out) (Kd.S_base ho0) hb); have n9_ := am (Kd.S_elder' (by (with_reducible repeat (first | apply Kd.S_alloc | apply Kd.S_drewN | apply Kd.S_drew)); exact HO265.out) (Kd.S_base ho0) hb); have n10_ := am (Kd.S_elder' (by (with_reducible repeat (first | apply Kd.S_alloc | apply Kd.S_drewN | apply Kd.S_drew)); exact HO269.out) (Kd.S_base ho0) hb); have n11_ := am (Kd.S_lower (Kd.S_new' (Kd.S_new' (Kd.S_new' (Kd.S_new' (Kd.S_new' (Kd.S_new' (Kd.S_new' ho0 (Kd.S_lt (by (with_reducible repeat (first | apply Kd.S_alloc | apply Kd.S_drewN | apply Kd.S_drew)); exact HO231.out))) (Kd.S_lt (by (with_reducible repeat (first | apply Kd.S_alloc | apply Kd.S_drewN | apply Kd.S_drew)); exact HO235.out))) (Kd.R_lt (zR HO238.out))) (Kd.R_lt (zR HO245.out))) (Kd.S_lt (by (with_reducible repeat (first | apply Kd.S_alloc | apply Kd.S_drewN | apply Kd.S_drew)); exact HO261.out))) (Kd.S_lt (by (with_reducible repeat (first | apply Kd.S_alloc | apply Kd.S_drewN | apply Kd.S_drew)); exact HO265.out))) (Kd.S_lt (by (with_reducible repeat (first | apply Kd.S_alloc | apply Kd.S_drewN | apply Kd.S_drew)); exact HO269.out))) (below_size (zL HB.out))); have n12_ := am (below_step (zL HB.out) hb); clear HO231 HO235 HO238 HO241 HO245 HO248 HO252 HO256 HO261 HO265 HO269 HB; have HO231 := n0_; have HO235 := n1_; have HO238 := n2_; have HO241 := n3_; have HO245 := n4_; have HO248 := n5_; have HO252 := n6_; have HO256 := n7_; have HO261 := n8_; have HO265 := n9_; have HO269 := n10_; have HO273 := n11_; have HB := n12_; clear n0_ n1_ n2_ n3_ n4_ n5_ n6_ n7_ n8_ n9_ n10_ n11_ n12_; (try clear hb); (try clear hb2); (try clear hk); (try clear hi); (try clear ho0)))
    (try simp only [Act.put, List.setIfInBounds_toArray, List.set_cons_zero, List.set_cons_succ])
    go_cut [33] (fun v33 wc => ∃ (kq : Nat) (x33_21 : Bool), v33 = .bool x33_21 ∧ Aside0 (clusterlockslaw23_ChannelActs.j1 kq l0 t228 t232 t236 t239 t243 t246 t250 t254 t258 t262 t266 t270 x33_21 = some r) ∧ Aside0 (kq ≤ kj5) ∧ Aside0 (Kd.S (Kd.slice 5 (Kd.int .u8)) 25 wc w.heap.size (fun k_ => some k_ ≠ (v234 : Value).ownBlock ∧ some k_ ≠ (v237 : Value).ownBlock ∧ some k_ ≠ (v244 : Value).ownBlock ∧ some k_ ≠ (v260 : Value).ownBlock ∧ some k_ ≠ (v264 : Value).ownBlock ∧ some k_ ≠ (v268 : Value).ownBlock ∧ some k_ ≠ (v272 : Value).ownBlock) v230 t228) ∧ Aside0 (Kd.S (Kd.slice 5 (Kd.int .u8)) 25 wc w.heap.size (fun k_ => some k_ ≠ (v230 : Value).ownBlock ∧ some k_ ≠ (v237 : Value).ownBlock ∧ some k_ ≠ (v244 : Value).ownBlock ∧ some k_ ≠ (v260 : Value).ownBlock ∧ some k_ ≠ (v264 : Value).ownBlock ∧ some k_ ≠ (v268 : Value).ownBlock ∧ some k_ ≠ (v272 : Value).ownBlock) v234 t232) ∧ Aside0 (Kd.R (Kd.int .u8) 5 wc w.heap.size (fun k_ => some k_ ≠ (v244 : Value).ownBlock) v237 t236) ∧ Aside0 (Kd.V (Kd.slice 5 (Kd.int .u8)) 25 wc w.heap.size (fun k_ => some k_ ≠ (v230 : Value).ownBlock ∧ some k_ ≠ (v234 : Value).ownBlock ∧ some k_ ≠ (v237 : Value).ownBlock ∧ some k_ ≠ (v244 : Value).ownBlock ∧ some k_ ≠ (v260 : Value).ownBlock ∧ some k_ ≠ (v264 : Value).ownBlock ∧ some k_ ≠ (v268 : Value).ownBlock ∧ some k_ ≠ (v272 : Value).ownBlock) v240 t239) ∧ Aside0 (Kd.R (Kd.int .u8) 5 wc w.heap.size (fun k_ => some k_ ≠ (v237 : Value).ownBlock) v244 t243) ∧ Aside0 (Kd.V (Kd.slice 5 (Kd.int .u8)) 25 wc w.heap.size (fun k_ => some k_ ≠ (v230 : Value).ownBlock ∧ some k_ ≠ (v234 : Value).ownBlock ∧ some k_ ≠ (v237 : Value).ownBlock ∧ some k_ ≠ (v244 : Value).ownBlock ∧ some k_ ≠ (v260 : Value).ownBlock ∧ some k_ ≠ (v264 : Value).ownBlock ∧ some k_ ≠ (v268 : Value).ownBlock ∧ some k_ ≠ (v272 : Value).ownBlock) v247 t246) ∧ Aside0 (Kd.V (Kd.slice 5 (Kd.int .u8)) 25 wc w.heap.size (fun k_ => some k_ ≠ (v230 : Value).ownBlock ∧ some k_ ≠ (v234 : Value).ownBlock ∧ some k_ ≠ (v237 : Value).ownBlock ∧ some k_ ≠ (v244 : Value).ownBlock ∧ some k_ ≠ (v260 : Value).ownBlock ∧ some k_ ≠ (v264 : Value).ownBlock ∧ some k_ ≠ (v268 : Value).ownBlock ∧ some k_ ≠ (v272 : Value).ownBlock) v251 t250) ∧ Aside0 (Kd.V (Kd.slice 5 (Kd.int .u8)) 25 wc w.heap.size (fun k_ => some k_ ≠ (v230 : Value).ownBlock ∧ some k_ ≠ (v234 : Value).ownBlock ∧ some k_ ≠ (v237 : Value).ownBlock ∧ some k_ ≠ (v244 : Value).ownBlock ∧ some k_ ≠ (v260 : Value).ownBlock ∧ some k_ ≠ (v264 : Value).ownBlock ∧ some k_ ≠ (v268 : Value).ownBlock ∧ some k_ ≠ (v272 : Value).ownBlock) v255 t254) ∧ Aside0 (Kd.S (Kd.slice 5 (Kd.int .u8)) 25 wc w.heap.size (fun k_ => some k_ ≠ (v230 : Value).ownBlock ∧ some k_ ≠ (v234 : Value).ownBlock ∧ some k_ ≠ (v237 : Value).ownBlock ∧ some k_ ≠ (v244 : Value).ownBlock ∧ some k_ ≠ (v264 : Value).ownBlock ∧ some k_ ≠ (v268 : Value).ownBlock ∧ some k_ ≠ (v272 : Value).ownBlock) v260 t258) ∧ Aside0 (Kd.S (Kd.slice 5 (Kd.int .u8)) 25 wc w.heap.size (fun k_ => some k_ ≠ (v230 : Value).ownBlock ∧ some k_ ≠ (v234 : Value).ownBlock ∧ some k_ ≠ (v237 : Value).ownBlock ∧ some k_ ≠ (v244 : Value).ownBlock ∧ some k_ ≠ (v260 : Value).ownBlock ∧ some k_ ≠ (v268 : Value).ownBlock ∧ some k_ ≠ (v272 : Value).ownBlock) v264 t262) ∧ Aside0 (Kd.S (Kd.slice 5 (Kd.int .u8)) 25 wc w.heap.size (fun k_ => some k_ ≠ (v230 : Value).ownBlock ∧ some k_ ≠ (v234 : Value).ownBlock ∧ some k_ ≠ (v237 : Value).ownBlock ∧ some k_ ≠ (v244 : Value).ownBlock ∧ some k_ ≠ (v260 : Value).ownBlock ∧ some k_ ≠ (v264 : Value).ownBlock ∧ some k_ ≠ (v272 : Value).ownBlock) v268 t266) ∧ Aside0 (Kd.S (Kd.slice 5 (Kd.int .u8)) 25 wc w.heap.size (fun k_ => some k_ ≠ (v230 : Value).ownBlock ∧ some k_ ≠ (v234 : Value).ownBlock ∧ some k_ ≠ (v237 : Value).ownBlock ∧ some k_ ≠ (v244 : Value).ownBlock ∧ some k_ ≠ (v260 : Value).ownBlock ∧ some k_ ≠ (v264 : Value).ownBlock ∧ some k_ ≠ (v268 : Value).ownBlock) v272 t270) ∧ Aside0 (Below w.heap.size w wc))
    case first =>
     have H := HC22.out
     clear HC22
     by_cases c33 : t229 = t233
     ·rw [if_pos c33] at H
      have c33b0 : (t229 == t233) = true := beq_iff_eq.mpr c33
      have c33b1 : (t229 != t233) = false := bne_eq_false_iff_eq.mpr c33
      clear c33
      (first | rw [c33b0] | (simp only [i64_w, i32_w]; rw [c33b0]) | skip)
      by_cases c34 : t242 = t249
      ·rw [if_pos c34] at H
       have c34b0 : (t242 == t249) = true := beq_iff_eq.mpr c34
       have c34b1 : (t242 != t249) = false := bne_eq_false_iff_eq.mpr c34
       clear c34
       by_cases c35 : t253 = t257
       ·rw [if_pos c35] at H
        have c35b0 : (t253 == t257) = true := beq_iff_eq.mpr c35
        have c35b1 : (t253 != t257) = false := bne_eq_false_iff_eq.mpr c35
        clear c35
        by_cases c36 : t259 = t263
        ·rw [if_pos c36] at H
         have c36b0 : (t259 == t263) = true := beq_iff_eq.mpr c36
         have c36b1 : (t259 != t263) = false := bne_eq_false_iff_eq.mpr c36
         clear c36
         have H' := Aside0.mk H
         clear H
         go_wp2
         go_meet
         case rel => exact ⟨_, ((t267 == t271)), (by first | rfl | (simp; done) | (simp [*]; done)), H', ⟨by have := HJ5.out; first | omega | exact Nat.le_refl _⟩, ⟨by (with_reducible repeat (first | apply Kd.S_alloc | apply Kd.S_drewN | apply Kd.S_drew)); exact Kd.S_mono HO231.out (fun _ hk => ⟨hk.1.1.1.1.1.1.2, ⟨hk.1.1.1.1.1.2, ⟨hk.1.1.1.1.2, ⟨hk.1.1.1.2, ⟨hk.1.1.2, ⟨hk.1.2, hk.2⟩⟩⟩⟩⟩⟩)⟩, ⟨by (with_reducible repeat (first | apply Kd.S_alloc | apply Kd.S_drewN | apply Kd.S_drew)); exact Kd.S_mono HO235.out (fun _ hk => ⟨hk.1.1.1.1.1.1.2, ⟨hk.1.1.1.1.1.2, ⟨hk.1.1.1.1.2, ⟨hk.1.1.1.2, ⟨hk.1.1.2, ⟨hk.1.2, hk.2⟩⟩⟩⟩⟩⟩)⟩, ⟨by exact zR <| Kd.R_mono HO238.out (fun _ hk => hk.2)⟩, ⟨by (with_reducible repeat (first | apply Kd.V_alloc | apply Kd.V_drewN | apply Kd.V_drew)); exact Kd.V_mono HO241.out (fun _ hk => ⟨hk.1.1.1.1.1.2.1, ⟨hk.1.1.1.1.1.2.2, ⟨hk.1.1.1.1.1.1, ⟨hk.1.1.1.1.2, ⟨hk.1.1.1.2, ⟨hk.1.1.2, ⟨hk.1.2, hk.2⟩⟩⟩⟩⟩⟩⟩)⟩, ⟨by exact zR <| Kd.R_mono HO245.out (fun _ hk => hk.2)⟩, ⟨by (with_reducible repeat (first | apply Kd.V_alloc | apply Kd.V_drewN | apply Kd.V_drew)); exact Kd.V_mono HO248.out (fun _ hk => ⟨hk.1.1.1.1.2.1, ⟨hk.1.1.1.1.2.2.1, ⟨hk.1.1.1.1.2.2.2, ⟨hk.1.1.1.1.1, ⟨hk.1.1.1.2, ⟨hk.1.1.2, ⟨hk.1.2, hk.2⟩⟩⟩⟩⟩⟩⟩)⟩, ⟨by (with_reducible repeat (first | apply Kd.V_alloc | apply Kd.V_drewN | apply Kd.V_drew)); exact Kd.V_mono HO252.out (fun _ hk => ⟨hk.1.1.1.1.1, ⟨hk.1.1.1.1.2.1, ⟨hk.1.1.1.1.2.2.1, ⟨hk.1.1.1.1.2.2.2, ⟨hk.1.1.1.2, ⟨hk.1.1.2, ⟨hk.1.2, hk.2⟩⟩⟩⟩⟩⟩⟩)⟩, ⟨by (with_reducible repeat (first | apply Kd.V_alloc | apply Kd.V_drewN | apply Kd.V_drew)); exact Kd.V_mono HO256.out (fun _ hk => ⟨hk.1.1.1.1.1, ⟨hk.1.1.1.1.2.1, ⟨hk.1.1.1.1.2.2.1, ⟨hk.1.1.1.1.2.2.2, ⟨hk.1.1.1.2, ⟨hk.1.1.2, ⟨hk.1.2, hk.2⟩⟩⟩⟩⟩⟩⟩)⟩, ⟨by (with_reducible repeat (first | apply Kd.S_alloc | apply Kd.S_drewN | apply Kd.S_drew)); exact Kd.S_mono HO261.out (fun _ hk => ⟨hk.1.1.1.1.1.1.2, ⟨hk.1.1.1.1.1.2, ⟨hk.1.1.1.1.2, ⟨hk.1.1.1.2, ⟨hk.1.1.2, ⟨hk.1.2, hk.2⟩⟩⟩⟩⟩⟩)⟩, ⟨by (with_reducible repeat (first | apply Kd.S_alloc | apply Kd.S_drewN | apply Kd.S_drew)); exact Kd.S_mono HO265.out (fun _ hk => ⟨hk.1.1.1.1.1.1.2, ⟨hk.1.1.1.1.1.2, ⟨hk.1.1.1.1.2, ⟨hk.1.1.1.2, ⟨hk.1.1.2, ⟨hk.1.2, hk.2⟩⟩⟩⟩⟩⟩)⟩, ⟨by (with_reducible repeat (first | apply Kd.S_alloc | apply Kd.S_drewN | apply Kd.S_drew)); exact Kd.S_mono HO269.out (fun _ hk => ⟨hk.1.1.1.1.1.1.2, ⟨hk.1.1.1.1.1.2, ⟨hk.1.1.1.1.2, ⟨hk.1.1.1.2, ⟨hk.1.1.2, ⟨hk.1.2, hk.2⟩⟩⟩⟩⟩⟩)⟩, ⟨by (with_reducible repeat (first | apply Kd.S_alloc | apply Kd.S_drewN | apply Kd.S_drew)); exact Kd.S_mono HO273.out (fun _ hk => ⟨hk.1.1.1.1.1.1.2, ⟨hk.1.1.1.1.1.2, ⟨hk.1.1.1.1.2, ⟨hk.1.1.1.2, ⟨hk.1.1.2, ⟨hk.1.2, hk.2⟩⟩⟩⟩⟩⟩)⟩, ⟨zL HB.out⟩⟩
        ·rw [if_neg c36] at H
         have c36b0 : (t259 == t263) = false := beq_eq_false_iff_ne.mpr c36
         have c36b1 : (t259 != t263) = true := bne_iff_ne.mpr c36
         have H' := Aside0.mk H
         clear H
         go_wp2
         go_meet
         case rel => exact ⟨_, (false), (by first | rfl | (simp; done) | (simp [*]; done)), H', ⟨by have := HJ5.out; first | omega | exact Nat.le_refl _⟩, ⟨by (with_reducible repeat (first | apply Kd.S_alloc | apply Kd.S_drewN | apply Kd.S_drew)); exact Kd.S_mono HO231.out (fun _ hk => ⟨hk.1.1.1.1.1.1.2, ⟨hk.1.1.1.1.1.2, ⟨hk.1.1.1.1.2, ⟨hk.1.1.1.2, ⟨hk.1.1.2, ⟨hk.1.2, hk.2⟩⟩⟩⟩⟩⟩)⟩, ⟨by (with_reducible repeat (first | apply Kd.S_alloc | apply Kd.S_drewN | apply Kd.S_drew)); exact Kd.S_mono HO235.out (fun _ hk => ⟨hk.1.1.1.1.1.1.2, ⟨hk.1.1.1.1.1.2, ⟨hk.1.1.1.1.2, ⟨hk.1.1.1.2, ⟨hk.1.1.2, ⟨hk.1.2, hk.2⟩⟩⟩⟩⟩⟩)⟩, ⟨by exact zR <| Kd.R_mono HO238.out (fun _ hk => hk.2)⟩, ⟨by (with_reducible repeat (first | apply Kd.V_alloc | apply Kd.V_drewN | apply Kd.V_drew)); exact Kd.V_mono HO241.out (fun _ hk => ⟨hk.1.1.1.1.1.2.1, ⟨hk.1.1.1.1.1.2.2, ⟨hk.1.1.1.1.1.1, ⟨hk.1.1.1.1.2, ⟨hk.1.1.1.2, ⟨hk.1.1.2, ⟨hk.1.2, hk.2⟩⟩⟩⟩⟩⟩⟩)⟩, ⟨by exact zR <| Kd.R_mono HO245.out (fun _ hk => hk.2)⟩, ⟨by (with_reducible repeat (first | apply Kd.V_alloc | apply Kd.V_drewN | apply Kd.V_drew)); exact Kd.V_mono HO248.out (fun _ hk => ⟨hk.1.1.1.1.2.1, ⟨hk.1.1.1.1.2.2.1, ⟨hk.1.1.1.1.2.2.2, ⟨hk.1.1.1.1.1, ⟨hk.1.1.1.2, ⟨hk.1.1.2, ⟨hk.1.2, hk.2⟩⟩⟩⟩⟩⟩⟩)⟩, ⟨by (with_reducible repeat (first | apply Kd.V_alloc | apply Kd.V_drewN | apply Kd.V_drew)); exact Kd.V_mono HO252.out (fun _ hk => ⟨hk.1.1.1.1.1, ⟨hk.1.1.1.1.2.1, ⟨hk.1.1.1.1.2.2.1, ⟨hk.1.1.1.1.2.2.2, ⟨hk.1.1.1.2, ⟨hk.1.1.2, ⟨hk.1.2, hk.2⟩⟩⟩⟩⟩⟩⟩)⟩, ⟨by (with_reducible repeat (first | apply Kd.V_alloc | apply Kd.V_drewN | apply Kd.V_drew)); exact Kd.V_mono HO256.out (fun _ hk => ⟨hk.1.1.1.1.1, ⟨hk.1.1.1.1.2.1, ⟨hk.1.1.1.1.2.2.1, ⟨hk.1.1.1.1.2.2.2, ⟨hk.1.1.1.2, ⟨hk.1.1.2, ⟨hk.1.2, hk.2⟩⟩⟩⟩⟩⟩⟩)⟩, ⟨by (with_reducible repeat (first | apply Kd.S_alloc | apply Kd.S_drewN | apply Kd.S_drew)); exact Kd.S_mono HO261.out (fun _ hk => ⟨hk.1.1.1.1.1.1.2, ⟨hk.1.1.1.1.1.2, ⟨hk.1.1.1.1.2, ⟨hk.1.1.1.2, ⟨hk.1.1.2, ⟨hk.1.2, hk.2⟩⟩⟩⟩⟩⟩)⟩, ⟨by (with_reducible repeat (first | apply Kd.S_alloc | apply Kd.S_drewN | apply Kd.S_drew)); exact Kd.S_mono HO265.out (fun _ hk => ⟨hk.1.1.1.1.1.1.2, ⟨hk.1.1.1.1.1.2, ⟨hk.1.1.1.1.2, ⟨hk.1.1.1.2, ⟨hk.1.1.2, ⟨hk.1.2, hk.2⟩⟩⟩⟩⟩⟩)⟩, ⟨by (with_reducible repeat (first | apply Kd.S_alloc | apply Kd.S_drewN | apply Kd.S_drew)); exact Kd.S_mono HO269.out (fun _ hk => ⟨hk.1.1.1.1.1.1.2, ⟨hk.1.1.1.1.1.2, ⟨hk.1.1.1.1.2, ⟨hk.1.1.1.2, ⟨hk.1.1.2, ⟨hk.1.2, hk.2⟩⟩⟩⟩⟩⟩)⟩, ⟨by (with_reducible repeat (first | apply Kd.S_alloc | apply Kd.S_drewN | apply Kd.S_drew)); exact Kd.S_mono HO273.out (fun _ hk => ⟨hk.1.1.1.1.1.1.2, ⟨hk.1.1.1.1.1.2, ⟨hk.1.1.1.1.2, ⟨hk.1.1.1.2, ⟨hk.1.1.2, ⟨hk.1.2, hk.2⟩⟩⟩⟩⟩⟩)⟩, ⟨zL HB.out⟩⟩
       ·rw [if_neg c35] at H
        have c35b0 : (t253 == t257) = false := beq_eq_false_iff_ne.mpr c35
        have c35b1 : (t253 != t257) = true := bne_iff_ne.mpr c35
        have H' := Aside0.mk H
        clear H
        go_wp2
        go_meet
        case rel => exact ⟨_, (false), (by first | rfl | (simp; done) | (simp [*]; done)), H', ⟨by have := HJ5.out; first | omega | exact Nat.le_refl _⟩, ⟨by (with_reducible repeat (first | apply Kd.S_alloc | apply Kd.S_drewN | apply Kd.S_drew)); exact Kd.S_mono HO231.out (fun _ hk => ⟨hk.1.1.1.1.1.1.2, ⟨hk.1.1.1.1.1.2, ⟨hk.1.1.1.1.2, ⟨hk.1.1.1.2, ⟨hk.1.1.2, ⟨hk.1.2, hk.2⟩⟩⟩⟩⟩⟩)⟩, ⟨by (with_reducible repeat (first | apply Kd.S_alloc | apply Kd.S_drewN | apply Kd.S_drew)); exact Kd.S_mono HO235.out (fun _ hk => ⟨hk.1.1.1.1.1.1.2, ⟨hk.1.1.1.1.1.2, ⟨hk.1.1.1.1.2, ⟨hk.1.1.1.2, ⟨hk.1.1.2, ⟨hk.1.2, hk.2⟩⟩⟩⟩⟩⟩)⟩, ⟨by exact zR <| Kd.R_mono HO238.out (fun _ hk => hk.2)⟩, ⟨by (with_reducible repeat (first | apply Kd.V_alloc | apply Kd.V_drewN | apply Kd.V_drew)); exact Kd.V_mono HO241.out (fun _ hk => ⟨hk.1.1.1.1.1.2.1, ⟨hk.1.1.1.1.1.2.2, ⟨hk.1.1.1.1.1.1, ⟨hk.1.1.1.1.2, ⟨hk.1.1.1.2, ⟨hk.1.1.2, ⟨hk.1.2, hk.2⟩⟩⟩⟩⟩⟩⟩)⟩, ⟨by exact zR <| Kd.R_mono HO245.out (fun _ hk => hk.2)⟩, ⟨by (with_reducible repeat (first | apply Kd.V_alloc | apply Kd.V_drewN | apply Kd.V_drew)); exact Kd.V_mono HO248.out (fun _ hk => ⟨hk.1.1.1.1.2.1, ⟨hk.1.1.1.1.2.2.1, ⟨hk.1.1.1.1.2.2.2, ⟨hk.1.1.1.1.1, ⟨hk.1.1.1.2, ⟨hk.1.1.2, ⟨hk.1.2, hk.2⟩⟩⟩⟩⟩⟩⟩)⟩, ⟨by (with_reducible repeat (first | apply Kd.V_alloc | apply Kd.V_drewN | apply Kd.V_drew)); exact Kd.V_mono HO252.out (fun _ hk => ⟨hk.1.1.1.1.1, ⟨hk.1.1.1.1.2.1, ⟨hk.1.1.1.1.2.2.1, ⟨hk.1.1.1.1.2.2.2, ⟨hk.1.1.1.2, ⟨hk.1.1.2, ⟨hk.1.2, hk.2⟩⟩⟩⟩⟩⟩⟩)⟩, ⟨by (with_reducible repeat (first | apply Kd.V_alloc | apply Kd.V_drewN | apply Kd.V_drew)); exact Kd.V_mono HO256.out (fun _ hk => ⟨hk.1.1.1.1.1, ⟨hk.1.1.1.1.2.1, ⟨hk.1.1.1.1.2.2.1, ⟨hk.1.1.1.1.2.2.2, ⟨hk.1.1.1.2, ⟨hk.1.1.2, ⟨hk.1.2, hk.2⟩⟩⟩⟩⟩⟩⟩)⟩, ⟨by (with_reducible repeat (first | apply Kd.S_alloc | apply Kd.S_drewN | apply Kd.S_drew)); exact Kd.S_mono HO261.out (fun _ hk => ⟨hk.1.1.1.1.1.1.2, ⟨hk.1.1.1.1.1.2, ⟨hk.1.1.1.1.2, ⟨hk.1.1.1.2, ⟨hk.1.1.2, ⟨hk.1.2, hk.2⟩⟩⟩⟩⟩⟩)⟩, ⟨by (with_reducible repeat (first | apply Kd.S_alloc | apply Kd.S_drewN | apply Kd.S_drew)); exact Kd.S_mono HO265.out (fun _ hk => ⟨hk.1.1.1.1.1.1.2, ⟨hk.1.1.1.1.1.2, ⟨hk.1.1.1.1.2, ⟨hk.1.1.1.2, ⟨hk.1.1.2, ⟨hk.1.2, hk.2⟩⟩⟩⟩⟩⟩)⟩, ⟨by (with_reducible repeat (first | apply Kd.S_alloc | apply Kd.S_drewN | apply Kd.S_drew)); exact Kd.S_mono HO269.out (fun _ hk => ⟨hk.1.1.1.1.1.1.2, ⟨hk.1.1.1.1.1.2, ⟨hk.1.1.1.1.2, ⟨hk.1.1.1.2, ⟨hk.1.1.2, ⟨hk.1.2, hk.2⟩⟩⟩⟩⟩⟩)⟩, ⟨by (with_reducible repeat (first | apply Kd.S_alloc | apply Kd.S_drewN | apply Kd.S_drew)); exact Kd.S_mono HO273.out (fun _ hk => ⟨hk.1.1.1.1.1.1.2, ⟨hk.1.1.1.1.1.2, ⟨hk.1.1.1.1.2, ⟨hk.1.1.1.2, ⟨hk.1.1.2, ⟨hk.1.2, hk.2⟩⟩⟩⟩⟩⟩)⟩, ⟨zL HB.out⟩⟩
      ·rw [if_neg c34] at H
       have c34b0 : (t242 == t249) = false := beq_eq_false_iff_ne.mpr c34
       have c34b1 : (t242 != t249) = true := bne_iff_ne.mpr c34
       have H' := Aside0.mk H
       clear H
       go_wp2
       go_meet
       case rel => exact ⟨_, (false), (by first | rfl | (simp; done) | (simp [*]; done)), H', ⟨by have := HJ5.out; first | omega | exact Nat.le_refl _⟩, ⟨by (with_reducible repeat (first | apply Kd.S_alloc | apply Kd.S_drewN | apply Kd.S_drew)); exact Kd.S_mono HO231.out (fun _ hk => ⟨hk.1.1.1.1.1.1.2, ⟨hk.1.1.1.1.1.2, ⟨hk.1.1.1.1.2, ⟨hk.1.1.1.2, ⟨hk.1.1.2, ⟨hk.1.2, hk.2⟩⟩⟩⟩⟩⟩)⟩, ⟨by (with_reducible repeat (first | apply Kd.S_alloc | apply Kd.S_drewN | apply Kd.S_drew)); exact Kd.S_mono HO235.out (fun _ hk => ⟨hk.1.1.1.1.1.1.2, ⟨hk.1.1.1.1.1.2, ⟨hk.1.1.1.1.2, ⟨hk.1.1.1.2, ⟨hk.1.1.2, ⟨hk.1.2, hk.2⟩⟩⟩⟩⟩⟩)⟩, ⟨by exact zR <| Kd.R_mono HO238.out (fun _ hk => hk.2)⟩, ⟨by (with_reducible repeat (first | apply Kd.V_alloc | apply Kd.V_drewN | apply Kd.V_drew)); exact Kd.V_mono HO241.out (fun _ hk => ⟨hk.1.1.1.1.1.2.1, ⟨hk.1.1.1.1.1.2.2, ⟨hk.1.1.1.1.1.1, ⟨hk.1.1.1.1.2, ⟨hk.1.1.1.2, ⟨hk.1.1.2, ⟨hk.1.2, hk.2⟩⟩⟩⟩⟩⟩⟩)⟩, ⟨by exact zR <| Kd.R_mono HO245.out (fun _ hk => hk.2)⟩, ⟨by (with_reducible repeat (first | apply Kd.V_alloc | apply Kd.V_drewN | apply Kd.V_drew)); exact Kd.V_mono HO248.out (fun _ hk => ⟨hk.1.1.1.1.2.1, ⟨hk.1.1.1.1.2.2.1, ⟨hk.1.1.1.1.2.2.2, ⟨hk.1.1.1.1.1, ⟨hk.1.1.1.2, ⟨hk.1.1.2, ⟨hk.1.2, hk.2⟩⟩⟩⟩⟩⟩⟩)⟩, ⟨by (with_reducible repeat (first | apply Kd.V_alloc | apply Kd.V_drewN | apply Kd.V_drew)); exact Kd.V_mono HO252.out (fun _ hk => ⟨hk.1.1.1.1.1, ⟨hk.1.1.1.1.2.1, ⟨hk.1.1.1.1.2.2.1, ⟨hk.1.1.1.1.2.2.2, ⟨hk.1.1.1.2, ⟨hk.1.1.2, ⟨hk.1.2, hk.2⟩⟩⟩⟩⟩⟩⟩)⟩, ⟨by (with_reducible repeat (first | apply Kd.V_alloc | apply Kd.V_drewN | apply Kd.V_drew)); exact Kd.V_mono HO256.out (fun _ hk => ⟨hk.1.1.1.1.1, ⟨hk.1.1.1.1.2.1, ⟨hk.1.1.1.1.2.2.1, ⟨hk.1.1.1.1.2.2.2, ⟨hk.1.1.1.2, ⟨hk.1.1.2, ⟨hk.1.2, hk.2⟩⟩⟩⟩⟩⟩⟩)⟩, ⟨by (with_reducible repeat (first | apply Kd.S_alloc | apply Kd.S_drewN | apply Kd.S_drew)); exact Kd.S_mono HO261.out (fun _ hk => ⟨hk.1.1.1.1.1.1.2, ⟨hk.1.1.1.1.1.2, ⟨hk.1.1.1.1.2, ⟨hk.1.1.1.2, ⟨hk.1.1.2, ⟨hk.1.2, hk.2⟩⟩⟩⟩⟩⟩)⟩, ⟨by (with_reducible repeat (first | apply Kd.S_alloc | apply Kd.S_drewN | apply Kd.S_drew)); exact Kd.S_mono HO265.out (fun _ hk => ⟨hk.1.1.1.1.1.1.2, ⟨hk.1.1.1.1.1.2, ⟨hk.1.1.1.1.2, ⟨hk.1.1.1.2, ⟨hk.1.1.2, ⟨hk.1.2, hk.2⟩⟩⟩⟩⟩⟩)⟩, ⟨by (with_reducible repeat (first | apply Kd.S_alloc | apply Kd.S_drewN | apply Kd.S_drew)); exact Kd.S_mono HO269.out (fun _ hk => ⟨hk.1.1.1.1.1.1.2, ⟨hk.1.1.1.1.1.2, ⟨hk.1.1.1.1.2, ⟨hk.1.1.1.2, ⟨hk.1.1.2, ⟨hk.1.2, hk.2⟩⟩⟩⟩⟩⟩)⟩, ⟨by (with_reducible repeat (first | apply Kd.S_alloc | apply Kd.S_drewN | apply Kd.S_drew)); exact Kd.S_mono HO273.out (fun _ hk => ⟨hk.1.1.1.1.1.1.2, ⟨hk.1.1.1.1.1.2, ⟨hk.1.1.1.1.2, ⟨hk.1.1.1.2, ⟨hk.1.1.2, ⟨hk.1.2, hk.2⟩⟩⟩⟩⟩⟩)⟩, ⟨zL HB.out⟩⟩
     ·rw [if_neg c33] at H
      have c33b0 : (t229 == t233) = false := beq_eq_false_iff_ne.mpr c33
      have c33b1 : (t229 != t233) = true := bne_iff_ne.mpr c33
      (first | rw [c33b0] | (simp only [i64_w, i32_w]; rw [c33b0]) | skip)
      have H' := Aside0.mk H
      clear H
      go_wp2
      go_meet
      case rel => exact ⟨_, (false), (by first | rfl | (simp; done) | (simp [*]; done)), H', ⟨by have := HJ5.out; first | omega | exact Nat.le_refl _⟩, ⟨by (with_reducible repeat (first | apply Kd.S_alloc | apply Kd.S_drewN | apply Kd.S_drew)); exact Kd.S_mono HO231.out (fun _ hk => ⟨hk.1.1.1.1.1.1.2, ⟨hk.1.1.1.1.1.2, ⟨hk.1.1.1.1.2, ⟨hk.1.1.1.2, ⟨hk.1.1.2, ⟨hk.1.2, hk.2⟩⟩⟩⟩⟩⟩)⟩, ⟨by (with_reducible repeat (first | apply Kd.S_alloc | apply Kd.S_drewN | apply Kd.S_drew)); exact Kd.S_mono HO235.out (fun _ hk => ⟨hk.1.1.1.1.1.1.2, ⟨hk.1.1.1.1.1.2, ⟨hk.1.1.1.1.2, ⟨hk.1.1.1.2, ⟨hk.1.1.2, ⟨hk.1.2, hk.2⟩⟩⟩⟩⟩⟩)⟩, ⟨by exact zR <| Kd.R_mono HO238.out (fun _ hk => hk.2)⟩, ⟨by (with_reducible repeat (first | apply Kd.V_alloc | apply Kd.V_drewN | apply Kd.V_drew)); exact Kd.V_mono HO241.out (fun _ hk => ⟨hk.1.1.1.1.1.2.1, ⟨hk.1.1.1.1.1.2.2, ⟨hk.1.1.1.1.1.1, ⟨hk.1.1.1.1.2, ⟨hk.1.1.1.2, ⟨hk.1.1.2, ⟨hk.1.2, hk.2⟩⟩⟩⟩⟩⟩⟩)⟩, ⟨by exact zR <| Kd.R_mono HO245.out (fun _ hk => hk.2)⟩, ⟨by (with_reducible repeat (first | apply Kd.V_alloc | apply Kd.V_drewN | apply Kd.V_drew)); exact Kd.V_mono HO248.out (fun _ hk => ⟨hk.1.1.1.1.2.1, ⟨hk.1.1.1.1.2.2.1, ⟨hk.1.1.1.1.2.2.2, ⟨hk.1.1.1.1.1, ⟨hk.1.1.1.2, ⟨hk.1.1.2, ⟨hk.1.2, hk.2⟩⟩⟩⟩⟩⟩⟩)⟩, ⟨by (with_reducible repeat (first | apply Kd.V_alloc | apply Kd.V_drewN | apply Kd.V_drew)); exact Kd.V_mono HO252.out (fun _ hk => ⟨hk.1.1.1.1.1, ⟨hk.1.1.1.1.2.1, ⟨hk.1.1.1.1.2.2.1, ⟨hk.1.1.1.1.2.2.2, ⟨hk.1.1.1.2, ⟨hk.1.1.2, ⟨hk.1.2, hk.2⟩⟩⟩⟩⟩⟩⟩)⟩, ⟨by (with_reducible repeat (first | apply Kd.V_alloc | apply Kd.V_drewN | apply Kd.V_drew)); exact Kd.V_mono HO256.out (fun _ hk => ⟨hk.1.1.1.1.1, ⟨hk.1.1.1.1.2.1, ⟨hk.1.1.1.1.2.2.1, ⟨hk.1.1.1.1.2.2.2, ⟨hk.1.1.1.2, ⟨hk.1.1.2, ⟨hk.1.2, hk.2⟩⟩⟩⟩⟩⟩⟩)⟩, ⟨by (with_reducible repeat (first | apply Kd.S_alloc | apply Kd.S_drewN | apply Kd.S_drew)); exact Kd.S_mono HO261.out (fun _ hk => ⟨hk.1.1.1.1.1.1.2, ⟨hk.1.1.1.1.1.2, ⟨hk.1.1.1.1.2, ⟨hk.1.1.1.2, ⟨hk.1.1.2, ⟨hk.1.2, hk.2⟩⟩⟩⟩⟩⟩)⟩, ⟨by (with_reducible repeat (first | apply Kd.S_alloc | apply Kd.S_drewN | apply Kd.S_drew)); exact Kd.S_mono HO265.out (fun _ hk => ⟨hk.1.1.1.1.1.1.2, ⟨hk.1.1.1.1.1.2, ⟨hk.1.1.1.1.2, ⟨hk.1.1.1.2, ⟨hk.1.1.2, ⟨hk.1.2, hk.2⟩⟩⟩⟩⟩⟩)⟩, ⟨by (with_reducible repeat (first | apply Kd.S_alloc | apply Kd.S_drewN | apply Kd.S_drew)); exact Kd.S_mono HO269.out (fun _ hk => ⟨hk.1.1.1.1.1.1.2, ⟨hk.1.1.1.1.1.2, ⟨hk.1.1.1.1.2, ⟨hk.1.1.1.2, ⟨hk.1.1.2, ⟨hk.1.2, hk.2⟩⟩⟩⟩⟩⟩)⟩, ⟨by (with_reducible repeat (first | apply Kd.S_alloc | apply Kd.S_drewN | apply Kd.S_drew)); exact Kd.S_mono HO273.out (fun _ hk => ⟨hk.1.1.1.1.1.1.2, ⟨hk.1.1.1.1.1.2, ⟨hk.1.1.1.1.2, ⟨hk.1.1.1.2, ⟨hk.1.1.2, ⟨hk.1.2, hk.2⟩⟩⟩⟩⟩⟩)⟩, ⟨zL HB.out⟩⟩
    case rest =>
     clear HC22
     try clear c1
     try clear c2
     try clear p2
     try clear c3
     try clear c5
     try clear c7
     try clear c8
     try clear c9
     try clear c10
     try clear c13
     try clear c14
     try clear c16
     try clear c17
     try clear c18
     try clear c19
     try clear c20
     try clear c21
     try clear c33
     try clear c33b0
     try clear c33b1
     try clear c34
     try clear c34b0
     try clear c34b1
     try clear c35
     try clear c35b0
     try clear c35b1
     try clear c36
     try clear c36b0
     try clear c36b1
     try clear p2
     obtain ⟨kq, x33_21, rfl, HA, HJ21, HO_11, HO_13, HO_15, HO_16, HO_18, HO_19, HO_21, HO_23, HO_25, HO_27, HO_29, HO_31, HB⟩ := hcut
     cases kq with
     | zero => exact absurd HA.out (by simp [clusterlockslaw23_ChannelActs.j1])
     | succ kj21 =>
      have H := HA.out
      clear HA
      simp only [clusterlockslaw23_ChannelActs.j1] at H
      replace H := Option.bind_eq_some_iff.mp H
      obtain ⟨t274, A370, H⟩ := H
      replace H : (if t274 = true then (if x33_21 = true then ((channel_Valid.f l0).bind fun t275 => ((clusterlocksref23_Valid.f kj21 l0).bind fun t276 => (if (t275 == t276) = true then ((clusterlocksref23_Same.f kj21 t228 t232).bind fun t277 => (if t277 = true then (if (strOfNums t236).toList = (strOfNums t243).toList then ((clusterlocksref23_Same.f kj21 t239 t246).bind fun t278 => (if t278 = true then ((clusterlocksref23_Same.f kj21 t250 t254).bind fun t279 => (if t279 = true then ((clusterlocksref23_Same.f kj21 t258 t262).bind fun t280 => (if t280 = true then ((clusterlocksref23_Same.f kj21 t266 t270).bind fun t281 => (some t281)) else (none))) else (none))) else (none))) else (none)) else (none))) else (none)))) else (none)) else (none)) = some r := H
      have A37 := Aside0.mk A370
      clear A370
      by_cases c38 : t274 = true
      ·subst c38
       have H1 : (if x33_21 = true then ((channel_Valid.f l0).bind fun t275 => ((clusterlocksref23_Valid.f kj21 l0).bind fun t276 => (if (t275 == t276) = true then ((clusterlocksref23_Same.f kj21 t228 t232).bind fun t277 => (if t277 = true then (if (strOfNums t236).toList = (strOfNums t243).toList then ((clusterlocksref23_Same.f kj21 t239 t246).bind fun t278 => (if t278 = true then ((clusterlocksref23_Same.f kj21 t250 t254).bind fun t279 => (if t279 = true then ((clusterlocksref23_Same.f kj21 t258 t262).bind fun t280 => (if t280 = true then ((clusterlocksref23_Same.f kj21 t266 t270).bind fun t281 => (some t281)) else (none))) else (none))) else (none))) else (none)) else (none))) else (none)))) else (none)) = some r := by rw [if_pos rfl] at H; exact H
       clear H
       have H := H1
       clear H1
       by_cases c39 : x33_21 = true
       ·subst c39
        have H1 : ((channel_Valid.f l0).bind fun t275 => ((clusterlocksref23_Valid.f kj21 l0).bind fun t276 => (if (t275 == t276) = true then ((clusterlocksref23_Same.f kj21 t228 t232).bind fun t277 => (if t277 = true then (if (strOfNums t236).toList = (strOfNums t243).toList then ((clusterlocksref23_Same.f kj21 t239 t246).bind fun t278 => (if t278 = true then ((clusterlocksref23_Same.f kj21 t250 t254).bind fun t279 => (if t279 = true then ((clusterlocksref23_Same.f kj21 t258 t262).bind fun t280 => (if t280 = true then ((clusterlocksref23_Same.f kj21 t266 t270).bind fun t281 => (some t281)) else (none))) else (none))) else (none))) else (none)) else (none))) else (none)))) = some r := by rw [if_pos rfl] at H; exact H
        clear H
        have H := H1
        clear H1
        replace H := Option.bind_eq_some_iff.mp H
        obtain ⟨t275, A400, H⟩ := H
        replace H : ((clusterlocksref23_Valid.f kj21 l0).bind fun t276 => (if (t275 == t276) = true then ((clusterlocksref23_Same.f kj21 t228 t232).bind fun t277 => (if t277 = true then (if (strOfNums t236).toList = (strOfNums t243).toList then ((clusterlocksref23_Same.f kj21 t239 t246).bind fun t278 => (if t278 = true then ((clusterlocksref23_Same.f kj21 t250 t254).bind fun t279 => (if t279 = true then ((clusterlocksref23_Same.f kj21 t258 t262).bind fun t280 => (if t280 = true then ((clusterlocksref23_Same.f kj21 t266 t270).bind fun t281 => (some t281)) else (none))) else (none))) else (none))) else (none)) else (none))) else (none))) = some r := H
        have A40 := Aside0.mk A400
        clear A400
        replace H := Option.bind_eq_some_iff.mp H
        obtain ⟨t276, A410, H⟩ := H
        replace H : (if (t275 == t276) = true then ((clusterlocksref23_Same.f kj21 t228 t232).bind fun t277 => (if t277 = true then (if (strOfNums t236).toList = (strOfNums t243).toList then ((clusterlocksref23_Same.f kj21 t239 t246).bind fun t278 => (if t278 = true then ((clusterlocksref23_Same.f kj21 t250 t254).bind fun t279 => (if t279 = true then ((clusterlocksref23_Same.f kj21 t258 t262).bind fun t280 => (if t280 = true then ((clusterlocksref23_Same.f kj21 t266 t270).bind fun t281 => (some t281)) else (none))) else (none))) else (none))) else (none)) else (none))) else (none)) = some r := H
        have A41 := Aside0.mk A410
        clear A410
        by_cases c42 : (t275 == t276) = true
        ·rw [if_pos c42] at H
         have c42b0 : (t275 == t276) = true := c42
         (try (have c42b1 : decide (t275 = t276) = true := by simpa using c42))
         (try (have c42b2 : (t275 == t276) = true := by simpa using c42))
         clear c42
         replace H := Option.bind_eq_some_iff.mp H
         obtain ⟨t277, A430, H⟩ := H
         replace H : (if t277 = true then (if (strOfNums t236).toList = (strOfNums t243).toList then ((clusterlocksref23_Same.f kj21 t239 t246).bind fun t278 => (if t278 = true then ((clusterlocksref23_Same.f kj21 t250 t254).bind fun t279 => (if t279 = true then ((clusterlocksref23_Same.f kj21 t258 t262).bind fun t280 => (if t280 = true then ((clusterlocksref23_Same.f kj21 t266 t270).bind fun t281 => (some t281)) else (none))) else (none))) else (none))) else (none)) else (none)) = some r := H
         have A43 := Aside0.mk A430
         clear A430
         by_cases c44 : t277 = true
         ·subst c44
          have H1 : (if (strOfNums t236).toList = (strOfNums t243).toList then ((clusterlocksref23_Same.f kj21 t239 t246).bind fun t278 => (if t278 = true then ((clusterlocksref23_Same.f kj21 t250 t254).bind fun t279 => (if t279 = true then ((clusterlocksref23_Same.f kj21 t258 t262).bind fun t280 => (if t280 = true then ((clusterlocksref23_Same.f kj21 t266 t270).bind fun t281 => (some t281)) else (none))) else (none))) else (none))) else (none)) = some r := by rw [if_pos rfl] at H; exact H
          clear H
          have H := H1
          clear H1
          by_cases c45 : (strOfNums t236).toList = (strOfNums t243).toList
          ·rw [if_pos c45] at H
           have c45b0 : ((strOfNums t236).toList == (strOfNums t243).toList) = true := beq_iff_eq.mpr c45
           have c45b1 : ((strOfNums t236).toList != (strOfNums t243).toList) = false := bne_eq_false_iff_eq.mpr c45
           clear c45
           replace H := Option.bind_eq_some_iff.mp H
           obtain ⟨t278, A460, H⟩ := H
           replace H : (if t278 = true then ((clusterlocksref23_Same.f kj21 t250 t254).bind fun t279 => (if t279 = true then ((clusterlocksref23_Same.f kj21 t258 t262).bind fun t280 => (if t280 = true then ((clusterlocksref23_Same.f kj21 t266 t270).bind fun t281 => (some t281)) else (none))) else (none))) else (none)) = some r := H
           have A46 := Aside0.mk A460
           clear A460
           by_cases c47 : t278 = true
           ·subst c47
            have H1 : ((clusterlocksref23_Same.f kj21 t250 t254).bind fun t279 => (if t279 = true then ((clusterlocksref23_Same.f kj21 t258 t262).bind fun t280 => (if t280 = true then ((clusterlocksref23_Same.f kj21 t266 t270).bind fun t281 => (some t281)) else (none))) else (none))) = some r := by rw [if_pos rfl] at H; exact H
            clear H
            have H := H1
            clear H1
            replace H := Option.bind_eq_some_iff.mp H
            obtain ⟨t279, A480, H⟩ := H
            replace H : (if t279 = true then ((clusterlocksref23_Same.f kj21 t258 t262).bind fun t280 => (if t280 = true then ((clusterlocksref23_Same.f kj21 t266 t270).bind fun t281 => (some t281)) else (none))) else (none)) = some r := H
            have A48 := Aside0.mk A480
            clear A480
            by_cases c49 : t279 = true
            ·subst c49
             have H1 : ((clusterlocksref23_Same.f kj21 t258 t262).bind fun t280 => (if t280 = true then ((clusterlocksref23_Same.f kj21 t266 t270).bind fun t281 => (some t281)) else (none))) = some r := by rw [if_pos rfl] at H; exact H
             clear H
             have H := H1
             clear H1
             replace H := Option.bind_eq_some_iff.mp H
             obtain ⟨t280, A500, H⟩ := H
             replace H : (if t280 = true then ((clusterlocksref23_Same.f kj21 t266 t270).bind fun t281 => (some t281)) else (none)) = some r := H
             have A50 := Aside0.mk A500
             clear A500
             by_cases c51 : t280 = true
             ·subst c51
              have H1 : ((clusterlocksref23_Same.f kj21 t266 t270).bind fun t281 => (some t281)) = some r := by rw [if_pos rfl] at H; exact H
              clear H
              have H := H1
              clear H1
              replace H := Option.bind_eq_some_iff.mp H
              obtain ⟨t281, A520, H⟩ := H
              replace H : (some t281) = some r := H
              have A52 := Aside0.mk A520
              clear A520
              obtain rfl := Option.some.inj H
              go_wp2_with (first | ((with_reducible refine gate_callee (f := 8) rfl ?_); refine goesL_ (some 132) rfl rfl Try.func8 (by kernel_rfl) rfl #[] rfl (by (try simp only [List.map_toArray, List.map_cons, List.map_nil]); first | done | rfl | (simp only [List.length_drop, List.length_take]; rfl)) ?_; (with_reducible refine (clusterlockslaw23_awake.calls kj21  true _ A37.out).mono ?_); rintro e w53 ⟨rfl, hb⟩; refine ⟨_, rfl, ?_⟩; have n0_ := am (Kd.S_below (by (with_reducible repeat (first | apply Kd.S_alloc | apply Kd.S_drewN | apply Kd.S_drew)); exact HO_11.out) hb); have n1_ := am (Kd.S_below (by (with_reducible repeat (first | apply Kd.S_alloc | apply Kd.S_drewN | apply Kd.S_drew)); exact HO_13.out) hb); have n2_ := am (Kd.R_below (zR HO_15.out) hb); have n3_ := am (Kd.V_below (by (with_reducible repeat (first | apply Kd.V_alloc | apply Kd.V_drewN | apply Kd.V_drew)); exact HO_16.out) hb); have n4_ := am (Kd.R_below (zR HO_18.out) hb); have n5_ := am (Kd.V_below (by (with_reducible repeat (first | apply Kd.V_alloc | apply Kd.V_drewN | apply Kd.V_drew)); exact HO_19.out) hb); have n6_ := am (Kd.V_below (by (with_reducible repeat (first | apply Kd.V_alloc | apply Kd.V_drewN | apply Kd.V_drew)); exact HO_21.out) hb); have n7_ := am (Kd.V_below (by (with_reducible repeat (first | apply Kd.V_alloc | apply Kd.V_drewN | apply Kd.V_drew)); exact HO_23.out) hb); have n8_ := am (Kd.S_below (by (with_reducible repeat (first | apply Kd.S_alloc | apply Kd.S_drewN | apply Kd.S_drew)); exact HO_25.out) hb); have n9_ := am (Kd.S_below (by (with_reducible repeat (first | apply Kd.S_alloc | apply Kd.S_drewN | apply Kd.S_drew)); exact HO_27.out) hb); have n10_ := am (Kd.S_below (by (with_reducible repeat (first | apply Kd.S_alloc | apply Kd.S_drewN | apply Kd.S_drew)); exact HO_29.out) hb); have n11_ := am (Kd.S_below (by (with_reducible repeat (first | apply Kd.S_alloc | apply Kd.S_drewN | apply Kd.S_drew)); exact HO_31.out) hb); have n12_ := am (below_step (zL HB.out) hb); clear HO_11 HO_13 HO_15 HO_16 HO_18 HO_19 HO_21 HO_23 HO_25 HO_27 HO_29 HO_31 HB; have HO_11 := n0_; have HO_13 := n1_; have HO_15 := n2_; have HO_16 := n3_; have HO_18 := n4_; have HO_19 := n5_; have HO_21 := n6_; have HO_23 := n7_; have HO_25 := n8_; have HO_27 := n9_; have HO_29 := n10_; have HO_31 := n11_; have HB := n12_; clear n0_ n1_ n2_ n3_ n4_ n5_ n6_ n7_ n8_ n9_ n10_ n11_ n12_; (try clear hb); (try clear hb2); (try clear hk); (try clear hi)) | (go_at_call 22; (with_reducible refine (channel_Valid.calls _ _ l0 t275 _ ?side1 ?side2 A40.out).mono ?_); (case side1 => exact zC (Kd.C_below HR0.out HB.out)); (case side2 => exact HC0.out); rintro e w' ⟨rfl, ⟨nd, rfl⟩⟩) | (go_at_call 11; (with_reducible refine (clusterlocksref23_Valid.calls kj21 _ _ l0 t276 _ ?side1 ?side2 A41.out).mono ?_); (case side1 => repeat (first | exact (Kd.C_below HR0.out (zL HB.out)) | (with_reducible refine Kd.C_alloc ?_ _) | (with_reducible refine Kd.C_drewN ?_ _) | (with_reducible refine Kd.C_drew ?_))); (case side2 => exact HC0.out); rintro e w' ⟨rfl, ⟨nd, rfl⟩⟩; obtain ⟨Ao54, co54, eo54⟩ := Kd.S_slice HO_11.out; subst eo54; obtain ⟨Ao55, co55, eo55⟩ := Kd.S_slice HO_13.out; subst eo55) | (go_at_call 15; (with_reducible refine (clusterlocksref23_Same.calls kj21 _ _ t228 _ _ t232 true _ ?side1 ?side2 ?side3 ?side4 A43.out).mono ?_); (case side1 => exact zC (Kd.S_reads' HO_11.out).2.2); (case side2 => exact (Kd.S_reads' HO_11.out).2.1); (case side3 => exact zC (Kd.S_reads' HO_13.out).2.2); (case side4 => exact (Kd.S_reads' HO_13.out).2.1); rintro e w' ⟨rfl, ⟨nd, rfl⟩⟩; have hcv56 := own_string (P := Try.prog) Try.underlying25 Try.underlying5 Try.underlying9 (Kd.own_of_R HO_15.out); have hcv57 := fun (nq_ : Nat) => own_string (P := Try.prog) Try.underlying25 Try.underlying5 Try.underlying9 (Kd.own_of_R (Kd.R_drewN HO_15.out nq_)); have hcv58 := own_string (P := Try.prog) Try.underlying25 Try.underlying5 Try.underlying9 (Kd.own_of_R HO_18.out); have hcv59 := fun (nq_ : Nat) => own_string (P := Try.prog) Try.underlying25 Try.underlying5 Try.underlying9 (Kd.own_of_R (Kd.R_drewN HO_18.out nq_)); obtain ⟨Ao60, co60, eo60⟩ := Kd.V_slice HO_16.out; subst eo60; obtain ⟨Ao61, co61, eo61⟩ := Kd.V_slice HO_19.out; subst eo61) | (go_at_call 15; (with_reducible refine (clusterlocksref23_Same.calls kj21 _ _ t239 _ _ t246 true _ ?side1 ?side2 ?side3 ?side4 A46.out).mono ?_); (case side1 => exact zC (Kd.V_reads' HO_16.out).2.2); (case side2 => exact (Kd.V_reads' HO_16.out).2.1); (case side3 => exact zC (Kd.V_reads' HO_19.out).2.2); (case side4 => exact (Kd.V_reads' HO_19.out).2.1); rintro e w' ⟨rfl, ⟨nd, rfl⟩⟩; obtain ⟨Ao62, co62, eo62⟩ := Kd.V_slice HO_21.out; subst eo62; obtain ⟨Ao63, co63, eo63⟩ := Kd.V_slice HO_23.out; subst eo63) | (go_at_call 15; (with_reducible refine (clusterlocksref23_Same.calls kj21 _ _ t250 _ _ t254 true _ ?side1 ?side2 ?side3 ?side4 A48.out).mono ?_); (case side1 => exact zC (Kd.V_reads' HO_21.out).2.2); (case side2 => exact (Kd.V_reads' HO_21.out).2.1); (case side3 => exact zC (Kd.V_reads' HO_23.out).2.2); (case side4 => exact (Kd.V_reads' HO_23.out).2.1); rintro e w' ⟨rfl, ⟨nd, rfl⟩⟩; obtain ⟨Ao64, co64, eo64⟩ := Kd.S_slice HO_25.out; subst eo64; obtain ⟨Ao65, co65, eo65⟩ := Kd.S_slice HO_27.out; subst eo65) | (go_at_call 15; (with_reducible refine (clusterlocksref23_Same.calls kj21 _ _ t258 _ _ t262 true _ ?side1 ?side2 ?side3 ?side4 A50.out).mono ?_); (case side1 => exact zC (Kd.S_reads' HO_25.out).2.2); (case side2 => exact (Kd.S_reads' HO_25.out).2.1); (case side3 => exact zC (Kd.S_reads' HO_27.out).2.2); (case side4 => exact (Kd.S_reads' HO_27.out).2.1); rintro e w' ⟨rfl, ⟨nd, rfl⟩⟩; obtain ⟨Ao66, co66, eo66⟩ := Kd.S_slice HO_29.out; subst eo66; obtain ⟨Ao67, co67, eo67⟩ := Kd.S_slice HO_31.out; subst eo67) | (go_at_call 15; (with_reducible refine (clusterlocksref23_Same.calls kj21 _ _ t266 _ _ t270 t281 _ ?side1 ?side2 ?side3 ?side4 A52.out).mono ?_); (case side1 => exact zC (Kd.S_reads' HO_29.out).2.2); (case side2 => exact (Kd.S_reads' HO_29.out).2.1); (case side3 => exact zC (Kd.S_reads' HO_31.out).2.2); (case side4 => exact (Kd.S_reads' HO_31.out).2.1); rintro e w' ⟨rfl, ⟨nd, rfl⟩⟩))
              go_ret
              exact ⟨by first | rfl | (simp [errW_none, errW_some] <;> rfl) | (simp [*, errW_none, errW_some] <;> rfl), zL HB.out⟩
             ·replace c51 := Bool.eq_false_iff.mpr c51
              subst c51
              have H1 : (none) = some r := by rw [if_neg (show ¬ (false = true) by decide)] at H; exact H
              clear H
              have H := H1
              clear H1
              exact absurd H (by simp)
            ·replace c49 := Bool.eq_false_iff.mpr c49
             subst c49
             have H1 : (none) = some r := by rw [if_neg (show ¬ (false = true) by decide)] at H; exact H
             clear H
             have H := H1
             clear H1
             exact absurd H (by simp)
           ·replace c47 := Bool.eq_false_iff.mpr c47
            subst c47
            have H1 : (none) = some r := by rw [if_neg (show ¬ (false = true) by decide)] at H; exact H
            clear H
            have H := H1
            clear H1
            exact absurd H (by simp)
          ·rw [if_neg c45] at H
           exact absurd H (by simp)
         ·replace c44 := Bool.eq_false_iff.mpr c44
          subst c44
          have H1 : (none) = some r := by rw [if_neg (show ¬ (false = true) by decide)] at H; exact H
          clear H
          have H := H1
          clear H1
          exact absurd H (by simp)
        ·rw [if_neg c42] at H
         exact absurd H (by simp)
       ·replace c39 := Bool.eq_false_iff.mpr c39
        subst c39
        have H1 : (none) = some r := by rw [if_neg (show ¬ (false = true) by decide)] at H; exact H
        clear H
        have H := H1
        clear H1
        exact absurd H (by simp)
      ·replace c38 := Bool.eq_false_iff.mpr c38
       subst c38
       have H1 : (none) = some r := by rw [if_neg (show ¬ (false = true) by decide)] at H; exact H
       clear H
       have H := H1
       clear H1
       exact absurd H (by simp)

end Go.Proofs.Ytnhdppfmdhdmdaa.Y

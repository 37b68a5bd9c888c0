-- Laid by a program of this session's (xprint.py, which runs the kit's print.py with patches of its own). Lean checks it.
import Derived.Test.YtnhdppfmdhdmdaaY0
import Derived.Test.YtnhdppfmdhdmdaaY1
import Derived.Test.YtnhdppfmdhdmdaaY2
import Derived.Test.YtnhdppfmdhdmdaaY3
namespace Go.Proofs.Ytnhdppfmdhdmdaa.Y
open Go.RowKit Go.Proofs.YtnhdppfmdhdmdaaW.PrintWords Go.Proofs.YtnhdppfmdhdmdaaW.PrintLast Go.Proofs.YtnhdppfmdhdmdaaW.PrintMore
attribute [local go_sem] max2_int min2_int max_two min_two max_three min_three max_four min_four   -- for this text's walks alone
set_option linter.unusedVariables false
set_option linter.unusedSimpArgs false

/-! ### clusterlockslaw23_ChannelFresh: function 4 -/
def clusterlockslaw23_ChannelFresh.f (k : Nat) (l0 : List (List Int)) (a1 a2 a3 : Int) : Option Bool := (clusterlockslaw23_short.f k l0).bind fun t => (if t = true then ((clusterlocksref23_Valid.f k l0).bind fun v => (if v = true then ((clusterlocksref23_Copy.f k l0).bind fun was => ((channel_Spoil.f k l0 a1 a2 (wrap64 a3)).bind fun bx => ((clusterlocksref23_Copy.f k bx.1).bind fun kp => ((channel_Double.f k bx.1 a1).bind fun by_ => ((clusterlockslaw23_awake.f k).bind fun t => (if t = true then (if bx.2 = 0 ∨ ¬ by_.2 = 0 then ((clusterlocksref23_Same.f k l0 was).bind fun s1 => (if s1 = true then ((clusterlocksref23_Same.f k bx.1 kp).bind fun s2 => (if s2 = true then (some true) else (none))) else (none))) else (none)) else (none))))))) else ((clusterlockslaw23_awake.f k).bind fun t => (some t)))) else ((clusterlockslaw23_awake.f k).bind fun t => (some t)))
set_option maxHeartbeats 8000000 in
set_option maxRecDepth 100000 in
theorem clusterlockslaw23_ChannelFresh.calls (k : Nat) (A0 : Option Addr) (c0 : Nat) (l0 : List (List Int)) (a1 a2 a3 : Int) (r : Bool) (w : World) (hr0 : Kd.C (Kd.slice 5 (Kd.int .u8)) w A0 l0.length l0) (hc0 : l0.length ≤ c0) (h : clusterlockslaw23_ChannelFresh.f k l0 a1 a2 a3 = some r) :
  Calls Try.prog 4 #[.slice A0 l0.length c0, .int .i64 a1, .int .i64 a2, .int .u8 a3] w fun e w' => e = .returned (.bool r) ∧ Below w.heap.size w w' := by
 unfold clusterlockslaw23_ChannelFresh.f at h
 have HR0 := Aside0.mk hr0
 have HC0 := Aside0.mk hc0
 have HB := am (Below.refl w.heap.size w)
 clear hr0 hc0
 replace h := Option.bind_eq_some_iff.mp h
 obtain ⟨t, ht, h⟩ := h
 have A2 := Aside0.mk ht
 clear ht
 cases t with
 | false =>
  rw [if_neg (by decide)] at h
  replace h := Option.bind_eq_some_iff.mp h
  obtain ⟨t, ht, h⟩ := h
  injection h with h
  subst h
  have A1 := Aside0.mk ht
  clear ht
  go_enter Try.func4, Try.ntmps4
  go_wp2_with (first | ((with_reducible refine gate_callee (f := 7) rfl ?_); refine goesL_ (some 19) rfl rfl Try.func7 (by kernel_rfl) rfl #[.slice A0 l0.length c0] rfl (by (try simp only [List.map_toArray, List.map_cons, List.map_nil]); first | done | rfl) ?_; (with_reducible refine (clusterlockslaw23_short.calls k _ _ l0 _ _ ?s1 ?s2 A2.out).mono ?_); (case s1 => exact zC (Kd.C_below HR0.out HB.out)); (case s2 => exact HC0.out); rintro e w' ⟨rfl, ⟨nd, rfl⟩⟩; refine ⟨_, rfl, ?_⟩) | ((with_reducible refine gate_callee (f := 8) rfl ?_); refine goesL_ (some 26) rfl rfl Try.func8 (by kernel_rfl) rfl #[] rfl (by (try simp only [List.map_toArray, List.map_cons, List.map_nil]); first | done | rfl) ?_; (with_reducible refine (clusterlockslaw23_awake.calls k _ _ A1.out).mono ?_); rintro e w9 ⟨rfl, hb⟩; refine ⟨_, rfl, ?_⟩; have n0_ := am (below_step (zL HB.out) hb); clear HB hb ; have HB := n0_; clear n0_))
  go_ret
  exact ⟨rfl, zL HB.out⟩
 | true =>
 rw [if_pos rfl] at h
 replace h := Option.bind_eq_some_iff.mp h
 obtain ⟨t, ht, h⟩ := h
 have A3 := Aside0.mk ht
 clear ht
 cases t with
 | false =>
  rw [if_neg (by decide)] at h
  replace h := Option.bind_eq_some_iff.mp h
  obtain ⟨t, ht, h⟩ := h
  injection h with h
  subst h
  have A1 := Aside0.mk ht
  clear ht
  go_enter Try.func4, Try.ntmps4
  go_wp2_with (first | ((with_reducible refine gate_callee (f := 7) rfl ?_); refine goesL_ (some 19) rfl rfl Try.func7 (by kernel_rfl) rfl #[.slice A0 l0.length c0] rfl (by (try simp only [List.map_toArray, List.map_cons, List.map_nil]); first | done | rfl) ?_; (with_reducible refine (clusterlockslaw23_short.calls k _ _ l0 _ _ ?s1 ?s2 A2.out).mono ?_); (case s1 => exact zC (Kd.C_below HR0.out HB.out)); (case s2 => exact HC0.out); rintro e w' ⟨rfl, ⟨nd, rfl⟩⟩; refine ⟨_, rfl, ?_⟩) | ((with_reducible refine gate_callee (f := 11) rfl ?_); (try (refine gate_guard (by rfl) ?_; dsimp only)); refine goesL_ (some 23) rfl rfl Try.func11 (by kernel_rfl) rfl #[.slice A0 l0.length c0] rfl (by (try simp only [List.map_toArray, List.map_cons, List.map_nil]); first | done | rfl) ?_; (with_reducible refine (clusterlocksref23_Valid.calls k _ _ l0 _ _ ?s1 ?s2 A3.out).mono ?_); (case s1 => exact zC (Kd.C_below HR0.out HB.out)); (case s2 => exact HC0.out); rintro e w' ⟨rfl, ⟨nd, rfl⟩⟩; refine ⟨_, rfl, ?_⟩) | ((with_reducible refine gate_callee (f := 8) rfl ?_); refine goesL_ (some 26) rfl rfl Try.func8 (by kernel_rfl) rfl #[] rfl (by (try simp only [List.map_toArray, List.map_cons, List.map_nil]); first | done | rfl) ?_; (with_reducible refine (clusterlockslaw23_awake.calls k _ _ A1.out).mono ?_); rintro e w9 ⟨rfl, hb⟩; refine ⟨_, rfl, ?_⟩; have n0_ := am (below_step (zL HB.out) hb); clear HB hb ; have HB := n0_; clear n0_))
  go_ret
  exact ⟨rfl, zL HB.out⟩
 | true =>
 rw [if_pos rfl] at h
 replace h := Option.bind_eq_some_iff.mp h
 obtain ⟨was, ht, h⟩ := h
 have A4 := Aside0.mk ht
 clear ht
 replace h := Option.bind_eq_some_iff.mp h
 obtain ⟨⟨tx, te⟩, ht, h⟩ := h
 have A5 := Aside0.mk ht
 clear ht
 replace h := Option.bind_eq_some_iff.mp h
 obtain ⟨kp, ht, h⟩ := h
 have A6 := Aside0.mk ht
 clear ht
 replace h := Option.bind_eq_some_iff.mp h
 obtain ⟨⟨ty, tf⟩, ht, h⟩ := h
 have A7 := Aside0.mk ht
 clear ht
 replace h := Option.bind_eq_some_iff.mp h
 obtain ⟨t, ht, h⟩ := h
 have A8 := Aside0.mk ht
 clear ht
 have H' := Aside0.mk h
 clear h
 go_enter Try.func4, Try.ntmps4
 go_wp2_with (first | ((with_reducible refine gate_callee (f := 7) rfl ?_); refine goesL_ (some 19) rfl rfl Try.func7 (by kernel_rfl) rfl #[.slice A0 l0.length c0] rfl (by (try simp only [List.map_toArray, List.map_cons, List.map_nil]); first | done | rfl) ?_; (with_reducible refine (clusterlockslaw23_short.calls k _ _ l0 _ _ ?s1 ?s2 A2.out).mono ?_); (case s1 => exact zC (Kd.C_below HR0.out HB.out)); (case s2 => exact HC0.out); rintro e w' ⟨rfl, ⟨nd, rfl⟩⟩; refine ⟨_, rfl, ?_⟩) | ((with_reducible refine gate_callee (f := 11) rfl ?_); (try (refine gate_guard (by rfl) ?_; dsimp only)); refine goesL_ (some 23) rfl rfl Try.func11 (by kernel_rfl) rfl #[.slice A0 l0.length c0] rfl (by (try simp only [List.map_toArray, List.map_cons, List.map_nil]); first | done | rfl) ?_; (with_reducible refine (clusterlocksref23_Valid.calls k _ _ l0 _ _ ?s1 ?s2 A3.out).mono ?_); (case s1 => exact zC (Kd.C_below HR0.out HB.out)); (case s2 => exact HC0.out); rintro e w' ⟨rfl, ⟨nd, rfl⟩⟩; refine ⟨_, rfl, ?_⟩) | ((with_reducible refine gate_callee (f := 12) rfl ?_); refine goesL_ (some 28) rfl rfl Try.func12 (by kernel_rfl) rfl #[.slice A0 l0.length c0] rfl (by (try simp only [List.map_toArray, List.map_cons, List.map_nil]); first | done | rfl) ?_; (with_reducible refine (clusterlocksref23_Copy.calls k _ _ l0 was _ ?s1 ?s2 A4.out).mono ?_); (case s1 => exact zC (Kd.C_below HR0.out HB.out)); (case s2 => exact HC0.out); rintro e w5 ⟨v5, rfl, hS, hb⟩; refine ⟨_, rfl, ?_⟩; have n0_ := am (below_step (zL HB.out) hb); have n1_ := am (Kd.S_V (base' := 0) hS); clear HB hb hS; have HB := n0_; have HV1 := n1_; clear n0_ n1_) | ((with_reducible refine gate_callee (f := 13) rfl ?_); refine goesL_ (some 35) rfl rfl Try.func13 (by kernel_rfl) rfl #[.slice A0 l0.length c0, .int .i64 a1, .int .i64 a2, .int .i64 (wrap64 a3)] rfl (by (try simp only [List.map_toArray, List.map_cons, List.map_nil]); first | done | rfl) ?_; (with_reducible refine (channel_Spoil.calls k _ _ l0 a1 a2 (wrap64 a3) tx te _ ?s1 ?s2 A5.out).mono ?_); (case s1 => exact zC (Kd.C_below HR0.out HB.out)); (case s2 => exact HC0.out); rintro e w6 ⟨v6, rfl, hS, hb⟩; refine ⟨_, rfl, ?_⟩; have n0_ := am (below_step (zL HB.out) hb); have n1_ := am (Kd.S_V (base' := 0) hS); have n2_ := am (Kd.V_below HV1.out hb); clear HB hb hS HV1; have HB := n0_; have HV2 := n1_; have HV1 := n2_; clear n0_ n1_ n2_; obtain ⟨Ax, cx, ex⟩ := Kd.V_slice HV2.out; subst ex) | ((with_reducible refine gate_callee (f := 12) rfl ?_); refine goesL_ (some 39) rfl rfl Try.func12 (by kernel_rfl) rfl #[.slice Ax tx.length cx] rfl (by (try simp only [List.map_toArray, List.map_cons, List.map_nil]); first | done | rfl) ?_; (with_reducible refine (clusterlocksref23_Copy.calls k _ _ tx kp _ ?s1 ?s2 A6.out).mono ?_); (case s1 => exact zC (Kd.V_reads' HV2.out).2.2); (case s2 => exact (Kd.V_reads' HV2.out).2.1); rintro e w8 ⟨v8, rfl, hS, hb⟩; refine ⟨_, rfl, ?_⟩; have n0_ := am (below_step (zL HB.out) hb); have n1_ := am (Kd.S_V (base' := 0) hS); have n2_ := am (Kd.V_below HV1.out hb); have n3_ := am (Kd.V_below HV2.out hb); clear HB hb hS HV1 HV2; have HB := n0_; have HV3 := n1_; have HV1 := n2_; have HV2 := n3_; clear n0_ n1_ n2_ n3_) | ((with_reducible refine gate_callee (f := 14) rfl ?_); refine goesL_ (some 43) rfl rfl Try.func14 (by kernel_rfl) rfl #[.slice Ax tx.length cx, .int .i64 a1] rfl (by (try simp only [List.map_toArray, List.map_cons, List.map_nil]); first | done | rfl) ?_; (with_reducible refine (channel_Double.calls k _ _ tx a1 ty tf _ ?s1 ?s2 A7.out).mono ?_); (case s1 => exact zC (Kd.V_reads' HV2.out).2.2); (case s2 => exact (Kd.V_reads' HV2.out).2.1); rintro e w9 ⟨v9, rfl, hS, hb⟩; refine ⟨_, rfl, ?_⟩; have n0_ := am (below_step (zL HB.out) hb); have n1_ := am (Kd.V_below (Kd.V_map (base' := w8.heap.size) (Xw.V_foot (Kd.heap_slice 5 (Kd.heap_int .u8)) HV1.out) (fun _ hf => hf)) hb); have n2_ := am (Kd.V_below (Kd.V_map (base' := w8.heap.size) (Xw.V_foot (Kd.heap_slice 5 (Kd.heap_int .u8)) HV2.out) (fun _ hf => hf)) hb); have n3_ := am (Kd.V_below (Kd.V_map (base' := w8.heap.size) (Xw.V_foot (Kd.heap_slice 5 (Kd.heap_int .u8)) HV3.out) (fun _ hf => hf)) hb); have n4_ := am (show Kd.S (Kd.slice 5 (Kd.int .u8)) 25 w9 w8.heap.size (fun _ => True) v9 ty from hS); have n5_ := am (show w.heap.size ≤ w8.heap.size from below_size HB.out); clear HB hb hS HV1 HV2 HV3; have HB := n0_; have HV1 := n1_; have HV2 := n2_; have HV3 := n3_; have HY := n4_; have HLE := n5_; clear n0_ n1_ n2_ n3_ n4_ n5_; obtain ⟨Ay, cy, ey⟩ := Kd.S_slice HY.out; subst ey))
 go_loopg [48] ty.length (fun gg v48 w' => ∃ (ys : List (List Int)) (x : Int), v48 = .int .i64 x ∧ Aside0 (0 ≤ x ∧ x ≤ (ty.length : Int) ∧ ty.length - x.toNat ≤ gg) ∧ Aside0 (ys.length = ty.length) ∧ Aside0 (Kd.S (Kd.slice 5 (Kd.int .u8)) 25 w' w8.heap.size (fun _ => True) (.slice Ay ty.length cy) ys) ∧ Aside0 (Kd.V (Kd.slice 5 (Kd.int .u8)) 25 w' w8.heap.size (fun k => k < w8.heap.size) v5 was) ∧ Aside0 (Kd.V (Kd.slice 5 (Kd.int .u8)) 25 w' w8.heap.size (fun k => k < w8.heap.size) (.slice Ax tx.length cx) tx) ∧ Aside0 (Kd.V (Kd.slice 5 (Kd.int .u8)) 25 w' w8.heap.size (fun k => k < w8.heap.size) v8 kp) ∧ Aside0 (Below w.heap.size w w'))
 case atStart => exact ⟨ty, 0, rfl, ⟨by omega⟩, ⟨rfl⟩, HY, HV1, HV2, HV3, ⟨zL HB.out⟩⟩
 case round =>
  clear HY HV1 HV2 HV3 HB
  obtain ⟨ys, x, rfl, HX, HYL, HY, HV1, HV2, HV3, HB⟩ := hrel
  by_cases c3 : x < (ty.length : Int)
  ·have c3b0 : decide (x < (ty.length : Int)) = true := decide_eq_true c3
   have c4 := HX.out.1
   have c4b0 : decide (0 ≤ x) = true := decide_eq_true c4
   obtain ⟨ad, A1, cc1, e1, hx1, hl1, hi1⟩ := at_L1 (Kd.S_reads' HY.out).2.2 x c4 (by have := HYL.out; omega)
   cases e1
   obtain ⟨oki, ce, hcl, hM, hcc, hok, hbk⟩ := Kd.S_borrow HY.out [] x c4 (by omega)
   obtain ⟨ve, rfl, ge⟩ := hM
   have hv := hcc 0 _ rfl
   rw [Nat.add_zero, show ((Kd.slice 5 (Kd.int .u8))).sz = 1 from rfl, Nat.mul_one] at hv
   replace hv := Option.some.inj (hv.symm.trans hx1)
   subst hv
   clear hcl hcc hok hl1 hi1
   obtain ⟨bn, hbn⟩ : ∃ bn, bn = (rd_L1 ys x).length := ⟨_, rfl⟩
   have HRb := am (show Kd.R (Kd.int .u8) 5 wr w8.heap.size oki (.slice A1 bn cc1) (rd_L1 ys x) by rw [hbn]; exact ge)
   rw [← hbn] at hx1
   have hbn2 := Aside0.mk hbn
   clear hbn
   have p1 := eq_true c4
   have q1 := eq_true c3
   obtain ⟨W1, hW1⟩ : ∃ W1, W1 = wr := ⟨_, rfl⟩
   have HG0 := am (show W1.grownBy wr (Value.slice A1 bn cc1).ownBlock by rw [hW1]; exact World.grownBy.refl _ _)
   have HBK : Aside0 (∀ (w1 : World) (b : List Int), W1.grownBy w1 (Value.slice A1 bn cc1).ownBlock → Kd.R (Kd.int .u8) 5 w1 w8.heap.size oki (.slice A1 bn cc1) b → Kd.S (Kd.slice 5 (Kd.int .u8)) 25 w1 w8.heap.size (fun _ => True) (.slice (some ad) ty.length cy) (ys.set x.toNat b)) := ⟨by
    intro w1 b hg hr
    rw [hW1] at hg
    have e2 : (Value.slice A1 (rd_L1 ys x).length cc1) = .slice A1 bn cc1 := by rw [hbn2.out]
    exact hbk hg (fun k hk => hr.1 k hk) (by have := Kd.M_row (d := Kd.int .u8) (e := 5) hr; rw [← e2] at this; exact this)⟩
   clear hbk ge hW1
   have HX2 := am (And.intro c4 c3)
   clear c3 c4
   go_wp2
   go_loopg [17] bn (fun gg v17 w2 => ∃ (b : List Int) (j : Int), v17 = .int .i64 j ∧ Aside0 (0 ≤ j ∧ j ≤ (bn : Int) ∧ bn - j.toNat ≤ gg) ∧ Aside0 (Kd.R (Kd.int .u8) 5 w2 w8.heap.size oki (.slice A1 bn cc1) b) ∧ Aside0 (W1.grownBy w2 (Value.slice A1 bn cc1).ownBlock) ∧ Aside0 (Kd.V (Kd.slice 5 (Kd.int .u8)) 25 w2 w8.heap.size (fun k => k < w8.heap.size) v5 was) ∧ Aside0 (Kd.V (Kd.slice 5 (Kd.int .u8)) 25 w2 w8.heap.size (fun k => k < w8.heap.size) (.slice Ax tx.length cx) tx) ∧ Aside0 (Kd.V (Kd.slice 5 (Kd.int .u8)) 25 w2 w8.heap.size (fun k => k < w8.heap.size) v8 kp) ∧ Aside0 (Below w.heap.size w w2))
   case atStart => exact ⟨rd_L1 ys x, 0, rfl, ⟨by omega⟩, HRb, HG0, HV1, HV2, HV3, ⟨zL HB.out⟩⟩
   case round =>
    clear HRb HG0 HV1 HV2 HV3 HB
    obtain ⟨b, j, rfl, HJ, HRb, HG0, HV1, HV2, HV3, HB⟩ := hrel
    by_cases c5 : j < (bn : Int)
    ·have c5b0 : decide (j < (bn : Int)) = true := decide_eq_true c5
     have c6 := HJ.out.1
     have c6b0 : decide (0 ≤ j) = true := decide_eq_true c6
     obtain ⟨g2, cg, eo, gb, gl, cl, hcl⟩ := Kd.R_form HRb.out (by have := (Kd.R_reads' HRb.out).1; omega)
     injection eo with ea en ec
     subst ea
     subst ec
     have GB2 := Aside0.mk gb
     have GW2 := Aside0.mk HLE.out
     clear gb gl hcl en
     obtain ⟨hxj, hfj⟩ := Kd.R_celln 0 HRb.out j c6 c5
     have HJ2 := am (And.intro c6 c5)
     have p2 := eq_true c6
     have q2 := eq_true c5
     clear c5 c6
     have HP := Kd.R_putg HRb.out j (IntKind.u8.wrap (rd b j + 1))
     go_wp2_with (first | ((with_reducible refine gate_store (t := 5) (p := 63) rfl ?_); refine store_event (t := 5) (p := 63) (v := ?vo) (w1 := (wr.setCell ⟨g2, j.toNat, none⟩ (.int .u8 (IntKind.u8.wrap (rd b j + 1))))) ?hg ?ho ?hn ?hr ?_; (case ho => rfl); (case hg => rfl); (case hn => rfl); (case hr => first | (go_simp; done) | (go_simp; rfl)); intro w15 hw; have n0_ := am (show Kd.R (Kd.int .u8) 5 w15 w8.heap.size oki (.slice (some ⟨g2, 0, none⟩) bn cc1) (b.set j.toNat (IntKind.u8.wrap (rd b j + 1))) by rw [hw]; exact HP.1); have n1_ := am (show W1.grownBy w15 (Value.slice (some ⟨g2, 0, none⟩) bn cc1).ownBlock by rw [hw]; exact World.grownBy.trans HG0.out HP.2); have n2_ := am (show Below w.heap.size w w15 by rw [hw]; exact below_set HB.out (Nat.le_trans GW2.out GB2.out)); have n3_ := am (show Kd.V (Kd.slice 5 (Kd.int .u8)) 25 w15 w8.heap.size (fun k => k < w8.heap.size) v5 was by rw [hw]; exact Xw.V_set HV1.out GB2.out _ _); have n4_ := am (show Kd.V (Kd.slice 5 (Kd.int .u8)) 25 w15 w8.heap.size (fun k => k < w8.heap.size) (.slice Ax tx.length cx) tx by rw [hw]; exact Xw.V_set HV2.out GB2.out _ _); have n5_ := am (show Kd.V (Kd.slice 5 (Kd.int .u8)) 25 w15 w8.heap.size (fun k => k < w8.heap.size) v8 kp by rw [hw]; exact Xw.V_set HV3.out GB2.out _ _); clear hw HP HRb HG0 HB HV1 HV2 HV3; have HRb := n0_; have HG0 := n1_; have HB := n2_; have HV1 := n3_; have HV2 := n4_; have HV3 := n5_; clear n0_ n1_ n2_ n3_ n4_ n5_))
     have hw : wrap64 (j + 1) = j + 1 := by have := HJ2.out; have h1_ := (Kd.R_reads' HRb.out).1; have h2_ := (Kd.R_reads' HRb.out).2.2.2.1; unfold wrap64; omega
     go_roundg (bn - (j.toNat + 1))
     case measure => have := HJ.out; have := HJ2.out; omega
     case rel => exact ⟨b.set j.toNat (IntKind.u8.wrap (rd b j + 1)), wrap64 (j + 1), rfl, ⟨by have := HJ2.out; omega⟩, HRb, HG0, HV1, HV2, HV3, ⟨zL HB.out⟩⟩
    ·have c5b0 : decide (j < (bn : Int)) = false := decide_eq_false c5
     clear c5
     go_wp2
     have hw : wrap64 (x + 1) = x + 1 := by have := HX2.out; have := HX.out; have h1_ := HYL.out; have h2_ := (Kd.S_reads' HY.out).2.2.2.1; unfold wrap64; omega
     go_roundg (ty.length - (x.toNat + 1))
     case measure => have := HX.out; have := HX2.out; omega
     case rel => exact ⟨ys.set x.toNat b, wrap64 (x + 1), rfl, ⟨by have := HX2.out; omega⟩, ⟨by rw [List.length_set]; exact HYL.out⟩, ⟨HBK.out _ b HG0.out HRb.out⟩, HV1, HV2, HV3, ⟨zL HB.out⟩⟩
  ·have c3b0 : decide (x < (ty.length : Int)) = false := decide_eq_false c3
   clear c3
   have h := H'.out
   clear H'
   cases t with
   | false => rw [if_neg (by decide)] at h; cases h
   | true =>
   rw [if_pos rfl] at h
   by_cases c7 : te = 0 ∨ ¬ tf = 0
   ·rw [if_pos c7] at h
    replace h := Option.bind_eq_some_iff.mp h
    obtain ⟨t, ht, h⟩ := h
    have A9 := Aside0.mk ht
    clear ht
    cases t with
    | false => rw [if_neg (by decide)] at h; cases h
    | true =>
    rw [if_pos rfl] at h
    replace h := Option.bind_eq_some_iff.mp h
    obtain ⟨t, ht, h⟩ := h
    have A10 := Aside0.mk ht
    clear ht
    cases t with
    | false => rw [if_neg (by decide)] at h; cases h
    | true =>
    rw [if_pos rfl] at h
    injection h with h
    subst h
    obtain ⟨Aw, cw, ew⟩ := Kd.V_slice HV1.out
    subst ew
    obtain ⟨Ak, ck, ek⟩ := Kd.V_slice HV3.out
    subst ek
    by_cases c8 : te = 0
    ·have c8b0 : (te == 0) = true := beq_iff_eq.mpr c8
     clear c7 c8
     go_wp2_with (first | ((with_reducible refine gate_callee (f := 8) rfl ?_); refine goesL_ (some 65) rfl rfl Try.func8 (by kernel_rfl) rfl #[] rfl (by (try simp only [List.map_toArray, List.map_cons, List.map_nil]); first | done | rfl) ?_; (with_reducible refine (clusterlockslaw23_awake.calls k _ _ A8.out).mono ?_); rintro e w9 ⟨rfl, hb⟩; refine ⟨_, rfl, ?_⟩; have n0_ := am (below_step (zL HB.out) hb); have m0_ := am (Kd.V_below HV1.out hb); have m1_ := am (Kd.V_below HV2.out hb); have m2_ := am (Kd.V_below HV3.out hb); clear HB hb HV1 HV2 HV3; have HB := n0_; clear n0_; have HV1 := m0_; clear m0_; have HV2 := m1_; clear m1_; have HV3 := m2_; clear m2_) | ((with_reducible refine gate_callee (f := 15) rfl ?_); (try (refine gate_guard (by rfl) ?_; dsimp only)); refine goesL_ (some 77) rfl rfl Try.func15 (by kernel_rfl) rfl #[.slice A0 l0.length c0, .slice Aw was.length cw] rfl (by (try simp only [List.map_toArray, List.map_cons, List.map_nil]); first | done | rfl) ?_; (with_reducible refine (clusterlocksref23_Same.calls k _ _ l0 _ _ was true _ ?s1 ?s2 ?s3 ?s4 A9.out).mono ?_); (case s1 => exact zC (Kd.C_below HR0.out HB.out)); (case s2 => exact HC0.out); (case s3 => exact zC (Kd.V_reads' HV1.out).2.2); (case s4 => exact (Kd.V_reads' HV1.out).2.1); rintro e w' ⟨rfl, ⟨nd, rfl⟩⟩; refine ⟨_, rfl, ?_⟩) | ((with_reducible refine gate_callee (f := 15) rfl ?_); (try (refine gate_guard (by rfl) ?_; dsimp only)); refine goesL_ (some 82) rfl rfl Try.func15 (by kernel_rfl) rfl #[.slice Ax tx.length cx, .slice Ak kp.length ck] rfl (by (try simp only [List.map_toArray, List.map_cons, List.map_nil]); first | done | rfl) ?_; (with_reducible refine (clusterlocksref23_Same.calls k _ _ tx _ _ kp true _ ?s1 ?s2 ?s3 ?s4 A10.out).mono ?_); (case s1 => exact zC (Kd.V_reads' HV2.out).2.2); (case s2 => exact (Kd.V_reads' HV2.out).2.1); (case s3 => exact zC (Kd.V_reads' HV3.out).2.2); (case s4 => exact (Kd.V_reads' HV3.out).2.1); rintro e w' ⟨rfl, ⟨nd, rfl⟩⟩; refine ⟨_, rfl, ?_⟩))
     go_ret
     exact ⟨rfl, zL HB.out⟩
    ·have c8b0 : (te == 0) = false := beq_eq_false_iff_ne.mpr c8
     have c9b0 : (tf != 0) = true := bne_iff_ne.mpr (by omega)
     clear c7 c8
     go_wp2_with (first | ((with_reducible refine gate_callee (f := 8) rfl ?_); refine goesL_ (some 65) rfl rfl Try.func8 (by kernel_rfl) rfl #[] rfl (by (try simp only [List.map_toArray, List.map_cons, List.map_nil]); first | done | rfl) ?_; (with_reducible refine (clusterlockslaw23_awake.calls k _ _ A8.out).mono ?_); rintro e w9 ⟨rfl, hb⟩; refine ⟨_, rfl, ?_⟩; have n0_ := am (below_step (zL HB.out) hb); have m0_ := am (Kd.V_below HV1.out hb); have m1_ := am (Kd.V_below HV2.out hb); have m2_ := am (Kd.V_below HV3.out hb); clear HB hb HV1 HV2 HV3; have HB := n0_; clear n0_; have HV1 := m0_; clear m0_; have HV2 := m1_; clear m1_; have HV3 := m2_; clear m2_) | ((with_reducible refine gate_callee (f := 15) rfl ?_); (try (refine gate_guard (by rfl) ?_; dsimp only)); refine goesL_ (some 77) rfl rfl Try.func15 (by kernel_rfl) rfl #[.slice A0 l0.length c0, .slice Aw was.length cw] rfl (by (try simp only [List.map_toArray, List.map_cons, List.map_nil]); first | done | rfl) ?_; (with_reducible refine (clusterlocksref23_Same.calls k _ _ l0 _ _ was true _ ?s1 ?s2 ?s3 ?s4 A9.out).mono ?_); (case s1 => exact zC (Kd.C_below HR0.out HB.out)); (case s2 => exact HC0.out); (case s3 => exact zC (Kd.V_reads' HV1.out).2.2); (case s4 => exact (Kd.V_reads' HV1.out).2.1); rintro e w' ⟨rfl, ⟨nd, rfl⟩⟩; refine ⟨_, rfl, ?_⟩) | ((with_reducible refine gate_callee (f := 15) rfl ?_); (try (refine gate_guard (by rfl) ?_; dsimp only)); refine goesL_ (some 82) rfl rfl Try.func15 (by kernel_rfl) rfl #[.slice Ax tx.length cx, .slice Ak kp.length ck] rfl (by (try simp only [List.map_toArray, List.map_cons, List.map_nil]); first | done | rfl) ?_; (with_reducible refine (clusterlocksref23_Same.calls k _ _ tx _ _ kp true _ ?s1 ?s2 ?s3 ?s4 A10.out).mono ?_); (case s1 => exact zC (Kd.V_reads' HV2.out).2.2); (case s2 => exact (Kd.V_reads' HV2.out).2.1); (case s3 => exact zC (Kd.V_reads' HV3.out).2.2); (case s4 => exact (Kd.V_reads' HV3.out).2.1); rintro e w' ⟨rfl, ⟨nd, rfl⟩⟩; refine ⟨_, rfl, ?_⟩))
     go_ret
     exact ⟨rfl, zL HB.out⟩
   ·rw [if_neg c7] at h; cases h


end Go.Proofs.Ytnhdppfmdhdmdaa.Y

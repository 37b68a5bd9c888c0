-- Laid by a program of this session's (xprint.py, which runs the kit's print.py with patches of its own). Lean checks it.
import Derived.Test.YtjdicbffpbpenaaY0
import Derived.Test.YtjdicbffpbpenaaY1
import Derived.Test.YtjdicbffpbpenaaY2
namespace Go.Proofs.Ytjdicbffpbpenaa.Y
open Go.RowKit Go.Proofs.YtjdicbffpbpenaaW.PrintWords Go.Proofs.YtjdicbffpbpenaaW.PrintLast Go.Proofs.YtjdicbffpbpenaaW.PrintMore
attribute [local go_sem] max2_int min2_int max_two min_two max_three min_three max_four min_four   -- for this text's walks alone
set_option linter.unusedVariables false
set_option linter.unusedSimpArgs false

/-! ### stable_Torn: function 12 -/
def stable_Torn.f (k : Nat) (l0_0 : List Int) (l0_1 : List Int) (l1 : List Int) (a2 : Int) : Option (List Int × List Int × Int) := if (l1.length : Int) > 512 then (some (([] : List Int), ([] : List Int), 3)) else ((stable_present.f k l0_0 l0_1).bind fun bt173 => (if bt173.2.1 ≥ 1073741824 then (some (([] : List Int), ([] : List Int), 16)) else ((codec_PutUint.f k ([] : List Int) (IntKind.u64.wrap (wrap64 (bt173.2.1 + 1)))).bind fun t179 => (if t179.length + l1.length < 140737488355328 then ((codec_Frame.f k (t179 ++ l1)).bind fun bt185 => (if bt185.2 = 0 then ((slices_Clone_byte_byte.f l0_0).bind fun t189 => ((slices_Clone_byte_byte.f l0_1).bind fun t192 => (if bt173.2.2.2 = true then ((stable_number.f (bt173.2.2.1 == 0)).bind fun t196 => (if 0 ≤ (mn (mx a2 0) (bt185.1.length : Int)) then (if (mn (mx a2 0) (bt185.1.length : Int)) ≤ (bt185.1.length : Int) then ((some (bt185.1.take ((mn (mx a2 0) (bt185.1.length : Int)) : Int).toNat : List Int)).bind fun y197 => (if t196 = 0 then (some (y197, t192, 0)) else (if t196 = 1 then (some (t189, y197, 0)) else (none)))) else (none)) else (none))) else ((stable_number.f false).bind fun t200 => (if 0 ≤ (mn (mx a2 0) (bt185.1.length : Int)) then (if (mn (mx a2 0) (bt185.1.length : Int)) ≤ (bt185.1.length : Int) then ((some (bt185.1.take ((mn (mx a2 0) (bt185.1.length : Int)) : Int).toNat : List Int)).bind fun y201 => (if t200 = 0 then (some (y201, t192, 0)) else (if t200 = 1 then (some (t189, y201, 0)) else (none)))) else (none)) else (none)))))) else (some (([] : List Int), ([] : List Int), bt185.2)))) else (none)))))
theorem stable_Torn.mono : ∀ a0 a1 a2 a3 k, LeO (stable_Torn.f k a0 a1 a2 a3) (stable_Torn.f (k + 1) a0 a1 a2 a3) := by
 intro a0 a1 a2 a3 k
 unfold stable_Torn.f
 repeat' first
   | (with_reducible exact codec_Frame.mono _ _)
   | (with_reducible exact codec_PutUint.mono _ _ _)
   | (with_reducible exact stable_present.mono _ _ _)
   | (with_reducible exact LeO.refl _)
   | (with_reducible exact LeO.none _)
   | (with_reducible refine LeO.ite ?_ ?_)
   | (with_reducible refine LeO.bind ?_ (fun _ => ?_))
   | exact codec_Frame.mono _ _
   | exact codec_PutUint.mono _ _ _
   | exact stable_present.mono _ _ _
   | exact LeO.none _
   | refine LeO.ite ?_ ?_
   | refine LeO.bind ?_ (fun _ => ?_)
def stable_Torn.T9 : Bool × List (List Nat × List Nat) := (true, [([], []), ([0], [0]), ([1], [1]), ([], []), ([3], [3]), ([4, 2], [4]), ([2, 5], [2, 5]), ([], []), ([7, 6, 5, 0, 1, 2, 3, 4, 5, 6, 7], [6, 7])])
def stable_Torn.B9 : List Nat := [0, 1, 3, 0, 8, 31, 63, 0, 255]
theorem stable_Torn.tab9 : rtab .any (opsOf Try.f12 9) = stable_Torn.T9 := by kernel_rfl
theorem stable_Torn.bits9 : waitsOk stable_Torn.T9.2 stable_Torn.B9 = true := by kernel_rfl
def stable_Torn.T10 : Bool × List (List Nat × List Nat) := (true, [([], []), ([0], [0]), ([1], [1]), ([2, 1], [1, 2]), ([1, 3], [1, 3]), ([4, 1], [4]), ([], []), ([], []), ([7], [7]), ([], []), ([9], [9]), ([8, 10], [8, 10]), ([6, 11], [6, 11]), ([5, 0, 1, 2, 3, 4, 5, 6, 7, 8, 9, 10, 11, 12], [5]), ([13, 12, 5, 0, 1, 2, 3, 4, 5, 6, 7, 8, 9, 10, 11, 12], [12, 13])])
def stable_Torn.B10 : List Nat := [0, 1, 3, 7, 15, 31, 0, 0, 128, 0, 512, 1920, 4032, 8191, 16383]
theorem stable_Torn.tab10 : rtab .any (opsOf Try.f12 10) = stable_Torn.T10 := by kernel_rfl
theorem stable_Torn.bits10 : waitsOk stable_Torn.T10.2 stable_Torn.B10 = true := by kernel_rfl
set_option maxHeartbeats 8000000 in
set_option maxRecDepth 100000 in
theorem stable_Torn.calls (k : Nat) (A0_0 : Option Addr) (c0_0 : Nat) (l0_0 : List Int) (A0_1 : Option Addr) (c0_1 : Nat) (l0_1 : List Int) (A1 : Option Addr) (c1 : Nat) (l1 : List Int) (a2 : Int) (r1 : List Int) (r2 : List Int) (r3 : Int) (w : World) (hr0_0 : Kd.C (Kd.int .u8) w A0_0 l0_0.length l0_0) (hc0_0 : l0_0.length ≤ c0_0) (hr0_1 : Kd.C (Kd.int .u8) w A0_1 l0_1.length l0_1) (hc0_1 : l0_1.length ≤ c0_1) (hr1 : Kd.C (Kd.int .u8) w A1 l1.length l1) (hc1 : l1.length ≤ c1) (h : stable_Torn.f k l0_0 l0_1 l1 a2 = some (r1, r2, r3)) :
  Calls Try.prog 12 #[.agg #[.slice A0_0 l0_0.length c0_0, .slice A0_1 l0_1.length c0_1], .slice A1 l1.length c1, .int .i64 a2] w fun e w' => ∃ v0_ v1_ : Value, e = .returned (.tuple #[.agg #[v0_, v1_], .int .i64 r3]) ∧ Kd.R (Kd.int .u8) 5 w' w.heap.size (fun k_ => some k_ ≠ (v1_ : Value).ownBlock) v0_ r1 ∧ Kd.R (Kd.int .u8) 5 w' w.heap.size (fun k_ => some k_ ≠ (v0_ : Value).ownBlock) v1_ r2 ∧ Below w.heap.size w w' := by
 have hu24 := Try.underlying24
 have hu54 := Try.underlying54
 have HR0_0 := Aside0.mk hr0_0
 have HC0_0 := Aside0.mk hc0_0
 clear hr0_0 hc0_0
 have HR0_1 := Aside0.mk hr0_1
 have HC0_1 := Aside0.mk hc0_1
 clear hr0_1 hc0_1
 have HR1 := Aside0.mk hr1
 have HC1 := Aside0.mk hc1
 clear hr1 hc1
 have HB := am (Below.refl w.heap.size w)
 have H : (if (l1.length : Int) > 512 then (some (([] : List Int), ([] : List Int), 3)) else ((stable_present.f k l0_0 l0_1).bind fun bt173 => (if bt173.2.1 ≥ 1073741824 then (some (([] : List Int), ([] : List Int), 16)) else ((codec_PutUint.f k ([] : List Int) (IntKind.u64.wrap (wrap64 (bt173.2.1 + 1)))).bind fun t179 => (if t179.length + l1.length < 140737488355328 then ((codec_Frame.f k (t179 ++ l1)).bind fun bt185 => (if bt185.2 = 0 then ((slices_Clone_byte_byte.f l0_0).bind fun t189 => ((slices_Clone_byte_byte.f l0_1).bind fun t192 => (if bt173.2.2.2 = true then ((stable_number.f (bt173.2.2.1 == 0)).bind fun t196 => (if 0 ≤ (mn (mx a2 0) (bt185.1.length : Int)) then (if (mn (mx a2 0) (bt185.1.length : Int)) ≤ (bt185.1.length : Int) then ((some (bt185.1.take ((mn (mx a2 0) (bt185.1.length : Int)) : Int).toNat : List Int)).bind fun y197 => (if t196 = 0 then (some (y197, t192, 0)) else (if t196 = 1 then (some (t189, y197, 0)) else (none)))) else (none)) else (none))) else ((stable_number.f false).bind fun t200 => (if 0 ≤ (mn (mx a2 0) (bt185.1.length : Int)) then (if (mn (mx a2 0) (bt185.1.length : Int)) ≤ (bt185.1.length : Int) then ((some (bt185.1.take ((mn (mx a2 0) (bt185.1.length : Int)) : Int).toNat : List Int)).bind fun y201 => (if t200 = 0 then (some (y201, t192, 0)) else (if t200 = 1 then (some (t189, y201, 0)) else (none)))) else (none)) else (none)))))) else (some (([] : List Int), ([] : List Int), bt185.2)))) else (none)))))) = some (r1, r2, r3) := h
 clear h
 by_cases c4 : (l1.length : Int) > 512
 ·rw [if_pos c4] at H
  have c4b0 : decide (512 < (l1.length : Int)) = true := decide_eq_true c4
  have c4b1 : decide (512 < l1.length) = true := decide_eq_true (by omega)
  clear c4
  simp only [Option.some.injEq, Prod.mk.injEq] at H
  obtain ⟨rfl, rfl, rfl⟩ := H
  go_enter Try.func12, Try.ntmps12
  go_wp2_with (first | ((with_reducible refine gate_dst (N := 3) rfl ?_); refine box_event ?hg (N := 3) ?hd (cs := #[.slice A0_0 l0_0.length c0_0, .slice A0_1 l0_1.length c0_1]) (t := 24) ?hr ?_; (case hd => rfl); (case hg => rfl); (case hr => first | (go_simp; done) | (go_simp; rfl)); intro gb171 hg w5 hbox hb; have n0_ := am (below_step (zL HB.out) hb); have n1_ := am (hbox); have n2_ := am (zS hg HB.out); have n3_ := am (zS hg HB.out); clear HB; have HB := n0_; have BK171 := n1_; have GW171 := n2_; have GE171 := n3_; clear n0_ n1_ n2_ n3_; clear hb hbox hg) | ((with_reducible refine gate_dst (N := 6) rfl ?_); refine box_event ?hg (N := 6) ?hd (cs := #[.slice none 0 0, .slice none 0 0]) (t := 24) ?hr ?_; (case hd => rfl); (case hg => rfl); (case hr => first | (go_simp; done) | (go_simp; rfl)); intro gb172 hg w6 hbox hb; have n0_ := am (blk_below (zB BK171.out) hb); have n1_ := am (below_step (zL HB.out) hb); have n2_ := am (hbox); have n3_ := am (zS hg HB.out); have n4_ := am (zS hg HB.out); have n5_ := am (zN hg BK171.out); have n6_ := am (zM hg BK171.out); clear BK171 HB; have BK171 := n0_; have HB := n1_; have BK172 := n2_; have GW172 := n3_; have GE172 := n4_; have NB171_172 := n5_; have NB172_171 := n6_; clear n0_ n1_ n2_ n3_ n4_ n5_ n6_; clear hb hbox hg; have hnb7 := NB172_171.out; have hnc7 := NB171_172.out; have hcz8_0 : w6.cell? ⟨gb172, 0, none⟩ = some (.slice none 0 0) := (blk_cell BK172.out 0).trans rfl; have hcz8_1 : w6.cell? ⟨gb172, 1, none⟩ = some (.slice none 0 0) := (blk_cell BK172.out 1).trans rfl; have hfz8_0 := blk_frozen BK172.out 0; have hfz8_1 := blk_frozen BK172.out 1) | ((with_reducible refine gate_store (t := 24) (p := 6) rfl ?_); refine store_event (t := 24) (p := 6) (v := ?vo_w9) (w1 := ((w6.setCell ⟨gb172, 0, none⟩ (.slice none 0 0)).setCell ⟨gb172, 1, none⟩ (.slice none 0 0))) ?hg ?ho ?hn ?hr ?_; (case ho => rfl); (case hg => rfl); (case hn => rfl); (case hr => first | (go_simp; done) | (go_simp; rfl)); intro w9 hw; have n0_ : Aside0 (w9.heap[gb171]? = some (.cells #[.slice A0_0 l0_0.length c0_0, .slice A0_1 l0_1.length c0_1] 24 (0, 0))) := ⟨(by rw [hw]; exact (by refine blk_far ?_ NB171_172.out _; refine blk_far ?_ NB171_172.out _; exact zB <| BK171.out))⟩; have n1_ : Aside0 (w9.heap[gb172]? = some (.cells #[.slice none 0 0, .slice none 0 0] 24 (0, 0))) := ⟨(by rw [hw]; exact (by refine blk_put (cs := #[.slice none 0 0, .slice none 0 0]) ?_ 1 _ rfl; refine blk_put (cs := #[.slice none 0 0, .slice none 0 0]) ?_ 0 _ rfl; exact zB <| BK172.out))⟩; have n2_ : Aside0 (Below w.heap.size w w9) := ⟨(by rw [hw]; exact (by repeat (first | (with_reducible first | exact HB.out | apply ba | apply bd | apply be | refine below_set ?_ GE171.out | refine below_set ?_ GE172.out) | exact HB.out)))⟩; clear hw BK171 BK172 HB; have BK171 := n0_; have BK172 := n1_; have HB := n2_; clear n0_ n1_ n2_))
  refine bodyPost_ret (results_ct rfl _ _ gb172 24 #[.slice none 0 0, .slice none 0 0] (0, 0) _ rfl (zB BK172.out) Try.underlying24 rfl (by kernel_rfl)) rfl ?_
  exact ⟨_, _, by first | rfl | (simp [errW_none, errW_some] <;> rfl) | (simp [*, errW_none, errW_some] <;> rfl), by first | exact Kd.R_nil _ _ _ _ _ | exact Kd.N_nil _ _ _ _ _ | exact Kd.V_nil _ _ _ _ _ | exact Kd.Q_nil _ _ _ _ _ | exact Kd.S_nil _ _ _ _ _, by first | exact Kd.R_nil _ _ _ _ _ | exact Kd.N_nil _ _ _ _ _ | exact Kd.V_nil _ _ _ _ _ | exact Kd.Q_nil _ _ _ _ _ | exact Kd.S_nil _ _ _ _ _, by repeat (first | (with_reducible first | exact HB.out | apply ba | apply bd | apply be | refine below_set ?_ GE171.out | refine below_set ?_ GE172.out) | exact HB.out)⟩
 ·rw [if_neg c4] at H
  have c4b0 : decide (512 < (l1.length : Int)) = false := decide_eq_false c4
  have c4b1 : decide (512 < l1.length) = false := decide_eq_false (by omega)
  clear c4
  replace H := Option.bind_eq_some_iff.mp H
  obtain ⟨⟨t173, t176, t177, t178⟩, A100, H⟩ := H
  replace H : (if t176 ≥ 1073741824 then (some (([] : List Int), ([] : List Int), 16)) else ((codec_PutUint.f k ([] : List Int) (IntKind.u64.wrap (wrap64 (t176 + 1)))).bind fun t179 => (if t179.length + l1.length < 140737488355328 then ((codec_Frame.f k (t179 ++ l1)).bind fun bt185 => (if bt185.2 = 0 then ((slices_Clone_byte_byte.f l0_0).bind fun t189 => ((slices_Clone_byte_byte.f l0_1).bind fun t192 => (if t178 = true then ((stable_number.f (t177 == 0)).bind fun t196 => (if 0 ≤ (mn (mx a2 0) (bt185.1.length : Int)) then (if (mn (mx a2 0) (bt185.1.length : Int)) ≤ (bt185.1.length : Int) then ((some (bt185.1.take ((mn (mx a2 0) (bt185.1.length : Int)) : Int).toNat : List Int)).bind fun y197 => (if t196 = 0 then (some (y197, t192, 0)) else (if t196 = 1 then (some (t189, y197, 0)) else (none)))) else (none)) else (none))) else ((stable_number.f false).bind fun t200 => (if 0 ≤ (mn (mx a2 0) (bt185.1.length : Int)) then (if (mn (mx a2 0) (bt185.1.length : Int)) ≤ (bt185.1.length : Int) then ((some (bt185.1.take ((mn (mx a2 0) (bt185.1.length : Int)) : Int).toNat : List Int)).bind fun y201 => (if t200 = 0 then (some (y201, t192, 0)) else (if t200 = 1 then (some (t189, y201, 0)) else (none)))) else (none)) else (none)))))) else (some (([] : List Int), ([] : List Int), bt185.2)))) else (none)))) = some (r1, r2, r3) := H
  have A10 := Aside0.mk A100
  clear A100
  by_cases c11 : t176 ≥ 1073741824
  ·rw [if_pos c11] at H
   have c11b0 : decide (1073741824 ≤ t176) = true := decide_eq_true c11
   clear c11
   simp only [Option.some.injEq, Prod.mk.injEq] at H
   obtain ⟨rfl, rfl, rfl⟩ := H
   go_enter Try.func12, Try.ntmps12
   go_wp2_with (first | ((with_reducible refine gate_dst (N := 3) rfl ?_); refine box_event ?hg (N := 3) ?hd (cs := #[.slice A0_0 l0_0.length c0_0, .slice A0_1 l0_1.length c0_1]) (t := 24) ?hr ?_; (case hd => rfl); (case hg => rfl); (case hr => first | (go_simp; done) | (go_simp; rfl)); intro gb171 hg w12 hbox hb; have n0_ := am (below_step (zL HB.out) hb); have n1_ := am (hbox); have n2_ := am (zS hg HB.out); have n3_ := am (zS hg HB.out); clear HB; have HB := n0_; have BK171 := n1_; have GW171 := n2_; have GE171 := n3_; clear n0_ n1_ n2_ n3_; clear hb hbox hg) | ((with_reducible refine gate_dst (N := 6) rfl ?_); refine box_event ?hg (N := 6) ?hd (cs := #[.slice none 0 0, .slice none 0 0]) (t := 24) ?hr ?_; (case hd => rfl); (case hg => rfl); (case hr => first | (go_simp; done) | (go_simp; rfl)); intro gb172 hg w13 hbox hb; have n0_ := am (blk_below (zB BK171.out) hb); have n1_ := am (below_step (zL HB.out) hb); have n2_ := am (hbox); have n3_ := am (zS hg HB.out); have n4_ := am (zS hg HB.out); have n5_ := am (zN hg BK171.out); have n6_ := am (zM hg BK171.out); clear BK171 HB; have BK171 := n0_; have HB := n1_; have BK172 := n2_; have GW172 := n3_; have GE172 := n4_; have NB171_172 := n5_; have NB172_171 := n6_; clear n0_ n1_ n2_ n3_ n4_ n5_ n6_; clear hb hbox hg; have hnb14 := NB171_172.out; have hnc14 := NB172_171.out; have hcz15_0 : w13.cell? ⟨gb171, 0, none⟩ = some (.slice A0_0 l0_0.length c0_0) := (blk_cell BK171.out 0).trans rfl; have hcz15_1 : w13.cell? ⟨gb171, 1, none⟩ = some (.slice A0_1 l0_1.length c0_1) := (blk_cell BK171.out 1).trans rfl; have hfz15_0 := blk_frozen BK171.out 0; have hfz15_1 := blk_frozen BK171.out 1) | ((with_reducible refine gate_callee (f := 21) rfl ?_); refine goesL_ (some 21) rfl rfl Try.func21 (by kernel_rfl) rfl #[.agg #[.slice A0_0 l0_0.length c0_0, .slice A0_1 l0_1.length c0_1]] rfl (by (try simp only [List.map_toArray, List.map_cons, List.map_nil]); first | done | rfl | (simp only [List.length_drop, List.length_take]; rfl)) ?_; (with_reducible refine (stable_present.calls k _ _ l0_0 _ _ l0_1 t173 t176 t177 t178 _ ?side1 ?side2 ?side3 ?side4 A10.out).mono ?_); (case side1 => exact zC (Kd.C_below HR0_0.out HB.out)); (case side2 => exact HC0_0.out); (case side3 => exact zC (Kd.C_below HR0_1.out HB.out)); (case side4 => exact HC0_1.out); rintro e w16 ⟨v174, rfl, ho0, hb⟩; refine ⟨_, rfl, ?_⟩; have n0_ := am (Kd.R_lower ho0 (below_size (zL HB.out))); have n1_ := am (blk_below (zB BK171.out) hb); have n2_ := am (blk_below (zB BK172.out) hb); have n3_ := am (below_step (zL HB.out) hb); clear BK171 BK172 HB; have HO175 := n0_; have BK171 := n1_; have BK172 := n2_; have HB := n3_; clear n0_ n1_ n2_ n3_; (try clear hb); (try clear hb2); (try clear hk); (try clear hi); (try clear ho0); have hcz17_0 : w16.cell? ⟨gb172, 0, none⟩ = some (.slice none 0 0) := (blk_cell BK172.out 0).trans rfl; have hcz17_1 : w16.cell? ⟨gb172, 1, none⟩ = some (.slice none 0 0) := (blk_cell BK172.out 1).trans rfl; have hfz17_0 := blk_frozen BK172.out 0; have hfz17_1 := blk_frozen BK172.out 1) | ((with_reducible refine gate_store (t := 24) (p := 6) rfl ?_); refine store_event (t := 24) (p := 6) (v := ?vo_w18) (w1 := ((w16.setCell ⟨gb172, 0, none⟩ (.slice none 0 0)).setCell ⟨gb172, 1, none⟩ (.slice none 0 0))) ?hg ?ho ?hn ?hr ?_; (case ho => rfl); (case hg => rfl); (case hn => rfl); (case hr => first | (go_simp; done) | (go_simp; rfl)); intro w18 hw; have n0_ : Aside0 (Kd.R (Kd.int .u8) 5 w18 w.heap.size (fun _ => True) v174 t173) := ⟨(by rw [hw]; exact (by exact zR <| Kd.R_mono (Kd.R_far (p := ⟨gb172, 1, none⟩) (Kd.R_far (p := ⟨gb172, 0, none⟩) (Kd.R_types HO175.out BK172.out (by decide)) (fun _ hk => hk.2) (.slice none 0 0)) (fun _ hk => hk.2) (.slice none 0 0)) (fun _ hk => trivial)))⟩; have n1_ : Aside0 (w18.heap[gb171]? = some (.cells #[.slice A0_0 l0_0.length c0_0, .slice A0_1 l0_1.length c0_1] 24 (0, 0))) := ⟨(by rw [hw]; exact (by refine blk_far ?_ NB171_172.out _; refine blk_far ?_ NB171_172.out _; exact zB <| BK171.out))⟩; have n2_ : Aside0 (w18.heap[gb172]? = some (.cells #[.slice none 0 0, .slice none 0 0] 24 (0, 0))) := ⟨(by rw [hw]; exact (by refine blk_put (cs := #[.slice none 0 0, .slice none 0 0]) ?_ 1 _ rfl; refine blk_put (cs := #[.slice none 0 0, .slice none 0 0]) ?_ 0 _ rfl; exact zB <| BK172.out))⟩; have n3_ : Aside0 (Below w.heap.size w w18) := ⟨(by rw [hw]; exact (by repeat (first | (with_reducible first | exact HB.out | apply ba | apply bd | apply be | refine below_set ?_ GE171.out | refine below_set ?_ GE172.out) | exact HB.out)))⟩; clear hw HO175 BK171 BK172 HB; have HO175 := n0_; have BK171 := n1_; have BK172 := n2_; have HB := n3_; clear n0_ n1_ n2_ n3_))
   refine bodyPost_ret (results_ct rfl _ _ gb172 24 #[.slice none 0 0, .slice none 0 0] (0, 0) _ rfl (zB BK172.out) Try.underlying24 rfl (by kernel_rfl)) rfl ?_
   exact ⟨_, _, by first | rfl | (simp [errW_none, errW_some] <;> rfl) | (simp [*, errW_none, errW_some] <;> rfl), by first | exact Kd.R_nil _ _ _ _ _ | exact Kd.N_nil _ _ _ _ _ | exact Kd.V_nil _ _ _ _ _ | exact Kd.Q_nil _ _ _ _ _ | exact Kd.S_nil _ _ _ _ _, by first | exact Kd.R_nil _ _ _ _ _ | exact Kd.N_nil _ _ _ _ _ | exact Kd.V_nil _ _ _ _ _ | exact Kd.Q_nil _ _ _ _ _ | exact Kd.S_nil _ _ _ _ _, by repeat (first | (with_reducible first | exact HB.out | apply ba | apply bd | apply be | refine below_set ?_ GE171.out | refine below_set ?_ GE172.out) | exact HB.out)⟩
  ·rw [if_neg c11] at H
   have c11b0 : decide (1073741824 ≤ t176) = false := decide_eq_false c11
   clear c11
   replace H := Option.bind_eq_some_iff.mp H
   obtain ⟨t179, A190, H⟩ := H
   replace H : (if t179.length + l1.length < 140737488355328 then ((codec_Frame.f k (t179 ++ l1)).bind fun bt185 => (if bt185.2 = 0 then ((slices_Clone_byte_byte.f l0_0).bind fun t189 => ((slices_Clone_byte_byte.f l0_1).bind fun t192 => (if t178 = true then ((stable_number.f (t177 == 0)).bind fun t196 => (if 0 ≤ (mn (mx a2 0) (bt185.1.length : Int)) then (if (mn (mx a2 0) (bt185.1.length : Int)) ≤ (bt185.1.length : Int) then ((some (bt185.1.take ((mn (mx a2 0) (bt185.1.length : Int)) : Int).toNat : List Int)).bind fun y197 => (if t196 = 0 then (some (y197, t192, 0)) else (if t196 = 1 then (some (t189, y197, 0)) else (none)))) else (none)) else (none))) else ((stable_number.f false).bind fun t200 => (if 0 ≤ (mn (mx a2 0) (bt185.1.length : Int)) then (if (mn (mx a2 0) (bt185.1.length : Int)) ≤ (bt185.1.length : Int) then ((some (bt185.1.take ((mn (mx a2 0) (bt185.1.length : Int)) : Int).toNat : List Int)).bind fun y201 => (if t200 = 0 then (some (y201, t192, 0)) else (if t200 = 1 then (some (t189, y201, 0)) else (none)))) else (none)) else (none)))))) else (some (([] : List Int), ([] : List Int), bt185.2)))) else (none)) = some (r1, r2, r3) := H
   have A19 := Aside0.mk A190
   clear A190
   by_cases c20 : t179.length + l1.length < 140737488355328
   ·rw [if_pos c20] at H
    have LMc20 := Aside0.mk c20
    clear c20
    obtain ⟨y182, hy182⟩ : ∃ y_ : List Int, y_ = (t179 ++ l1) := ⟨_, rfl⟩
    replace H : ((codec_Frame.f k y182).bind fun bt185 => (if bt185.2 = 0 then ((slices_Clone_byte_byte.f l0_0).bind fun t189 => ((slices_Clone_byte_byte.f l0_1).bind fun t192 => (if t178 = true then ((stable_number.f (t177 == 0)).bind fun t196 => (if 0 ≤ (mn (mx a2 0) (bt185.1.length : Int)) then (if (mn (mx a2 0) (bt185.1.length : Int)) ≤ (bt185.1.length : Int) then ((some (bt185.1.take ((mn (mx a2 0) (bt185.1.length : Int)) : Int).toNat : List Int)).bind fun y197 => (if t196 = 0 then (some (y197, t192, 0)) else (if t196 = 1 then (some (t189, y197, 0)) else (none)))) else (none)) else (none))) else ((stable_number.f false).bind fun t200 => (if 0 ≤ (mn (mx a2 0) (bt185.1.length : Int)) then (if (mn (mx a2 0) (bt185.1.length : Int)) ≤ (bt185.1.length : Int) then ((some (bt185.1.take ((mn (mx a2 0) (bt185.1.length : Int)) : Int).toNat : List Int)).bind fun y201 => (if t200 = 0 then (some (y201, t192, 0)) else (if t200 = 1 then (some (t189, y201, 0)) else (none)))) else (none)) else (none)))))) else (some (([] : List Int), ([] : List Int), bt185.2)))) = some (r1, r2, r3) := by first | (rw [hy182]; with_reducible exact H) | (have H2_ := (Option.bind_some _ _).symm.trans H; rw [hy182]; with_reducible exact H2_) | (have H2_ := (Option.bind_some _ _).symm.trans H; with_reducible exact H2_) | with_reducible exact H | (rw [hy182]; exact H) | exact H
    have Ny182 := Aside0.mk hy182
    clear hy182
    replace H := Option.bind_eq_some_iff.mp H
    obtain ⟨⟨t185, t186⟩, A210, H⟩ := H
    replace H : (if t186 = 0 then ((slices_Clone_byte_byte.f l0_0).bind fun t189 => ((slices_Clone_byte_byte.f l0_1).bind fun t192 => (if t178 = true then ((stable_number.f (t177 == 0)).bind fun t196 => (if 0 ≤ (mn (mx a2 0) (t185.length : Int)) then (if (mn (mx a2 0) (t185.length : Int)) ≤ (t185.length : Int) then ((some (t185.take ((mn (mx a2 0) (t185.length : Int)) : Int).toNat : List Int)).bind fun y197 => (if t196 = 0 then (some (y197, t192, 0)) else (if t196 = 1 then (some (t189, y197, 0)) else (none)))) else (none)) else (none))) else ((stable_number.f false).bind fun t200 => (if 0 ≤ (mn (mx a2 0) (t185.length : Int)) then (if (mn (mx a2 0) (t185.length : Int)) ≤ (t185.length : Int) then ((some (t185.take ((mn (mx a2 0) (t185.length : Int)) : Int).toNat : List Int)).bind fun y201 => (if t200 = 0 then (some (y201, t192, 0)) else (if t200 = 1 then (some (t189, y201, 0)) else (none)))) else (none)) else (none)))))) else (some (([] : List Int), ([] : List Int), t186))) = some (r1, r2, r3) := H
    have A21 := Aside0.mk A210
    clear A210
    by_cases c22 : t186 = 0
    ·rw [if_pos c22] at H
     have c22b0 : (t186 == 0) = true := beq_iff_eq.mpr c22
     have c22b1 : (t186 != 0) = false := bne_eq_false_iff_eq.mpr c22
     clear c22
     replace H := Option.bind_eq_some_iff.mp H
     obtain ⟨t189, A230, H⟩ := H
     replace H : ((slices_Clone_byte_byte.f l0_1).bind fun t192 => (if t178 = true then ((stable_number.f (t177 == 0)).bind fun t196 => (if 0 ≤ (mn (mx a2 0) (t185.length : Int)) then (if (mn (mx a2 0) (t185.length : Int)) ≤ (t185.length : Int) then ((some (t185.take ((mn (mx a2 0) (t185.length : Int)) : Int).toNat : List Int)).bind fun y197 => (if t196 = 0 then (some (y197, t192, 0)) else (if t196 = 1 then (some (t189, y197, 0)) else (none)))) else (none)) else (none))) else ((stable_number.f false).bind fun t200 => (if 0 ≤ (mn (mx a2 0) (t185.length : Int)) then (if (mn (mx a2 0) (t185.length : Int)) ≤ (t185.length : Int) then ((some (t185.take ((mn (mx a2 0) (t185.length : Int)) : Int).toNat : List Int)).bind fun y201 => (if t200 = 0 then (some (y201, t192, 0)) else (if t200 = 1 then (some (t189, y201, 0)) else (none)))) else (none)) else (none))))) = some (r1, r2, r3) := H
     have A23 := Aside0.mk A230
     clear A230
     replace H := Option.bind_eq_some_iff.mp H
     obtain ⟨t192, A240, H⟩ := H
     replace H : (if t178 = true then ((stable_number.f (t177 == 0)).bind fun t196 => (if 0 ≤ (mn (mx a2 0) (t185.length : Int)) then (if (mn (mx a2 0) (t185.length : Int)) ≤ (t185.length : Int) then ((some (t185.take ((mn (mx a2 0) (t185.length : Int)) : Int).toNat : List Int)).bind fun y197 => (if t196 = 0 then (some (y197, t192, 0)) else (if t196 = 1 then (some (t189, y197, 0)) else (none)))) else (none)) else (none))) else ((stable_number.f false).bind fun t200 => (if 0 ≤ (mn (mx a2 0) (t185.length : Int)) then (if (mn (mx a2 0) (t185.length : Int)) ≤ (t185.length : Int) then ((some (t185.take ((mn (mx a2 0) (t185.length : Int)) : Int).toNat : List Int)).bind fun y201 => (if t200 = 0 then (some (y201, t192, 0)) else (if t200 = 1 then (some (t189, y201, 0)) else (none)))) else (none)) else (none)))) = some (r1, r2, r3) := H
     have A24 := Aside0.mk A240
     clear A240
     have H24 := Aside0.mk H
     clear H
     go_enter Try.func12, Try.ntmps12
     try go_wp2_with (first | ((with_reducible refine gate_dst (N := 3) rfl ?_); refine box_event ?hg (N := 3) ?hd (cs := #[.slice A0_0 l0_0.length c0_0, .slice A0_1 l0_1.length c0_1]) (t := 24) ?hr ?_; (case hd => rfl); (case hg => rfl); (case hr => first | (go_simp; done) | (go_simp; rfl)); intro gb171 hg w32 hbox hb; have n0_ := am (below_step (zL HB.out) hb); have n1_ := am (hbox); have n2_ := am (zS hg HB.out); have n3_ := am (zS hg HB.out); clear HB; have HB := n0_; have BK171 := n1_; have GW171 := n2_; have GE171 := n3_; clear n0_ n1_ n2_ n3_; clear hb hbox hg) | ((with_reducible refine gate_dst (N := 6) rfl ?_); refine box_event ?hg (N := 6) ?hd (cs := #[.slice none 0 0, .slice none 0 0]) (t := 24) ?hr ?_; (case hd => rfl); (case hg => rfl); (case hr => first | (go_simp; done) | (go_simp; rfl)); intro gb172 hg w33 hbox hb; have n0_ := am (blk_below (zB BK171.out) hb); have n1_ := am (below_step (zL HB.out) hb); have n2_ := am (hbox); have n3_ := am (zS hg HB.out); have n4_ := am (zS hg HB.out); have n5_ := am (zN hg BK171.out); have n6_ := am (zM hg BK171.out); clear BK171 HB; have BK171 := n0_; have HB := n1_; have BK172 := n2_; have GW172 := n3_; have GE172 := n4_; have NB171_172 := n5_; have NB172_171 := n6_; clear n0_ n1_ n2_ n3_ n4_ n5_ n6_; clear hb hbox hg; have hnb34 := NB171_172.out; have hnc34 := NB172_171.out; have hcz35_0 : w33.cell? ⟨gb171, 0, none⟩ = some (.slice A0_0 l0_0.length c0_0) := (blk_cell BK171.out 0).trans rfl; have hcz35_1 : w33.cell? ⟨gb171, 1, none⟩ = some (.slice A0_1 l0_1.length c0_1) := (blk_cell BK171.out 1).trans rfl; have hfz35_0 := blk_frozen BK171.out 0; have hfz35_1 := blk_frozen BK171.out 1) | ((with_reducible refine gate_callee (f := 21) rfl ?_); refine goesL_ (some 21) rfl rfl Try.func21 (by kernel_rfl) rfl #[.agg #[.slice A0_0 l0_0.length c0_0, .slice A0_1 l0_1.length c0_1]] rfl (by (try simp only [List.map_toArray, List.map_cons, List.map_nil]); first | done | rfl | (simp only [List.length_drop, List.length_take]; rfl)) ?_; (with_reducible refine (stable_present.calls k _ _ l0_0 _ _ l0_1 t173 t176 t177 t178 _ ?side1 ?side2 ?side3 ?side4 A10.out).mono ?_); (case side1 => exact zC (Kd.C_below HR0_0.out HB.out)); (case side2 => exact HC0_0.out); (case side3 => exact zC (Kd.C_below HR0_1.out HB.out)); (case side4 => exact HC0_1.out); rintro e w36 ⟨v174, rfl, ho0, hb⟩; refine ⟨_, rfl, ?_⟩; have n0_ := am (Kd.R_lower ho0 (below_size (zL HB.out))); have n1_ := am (blk_below (zB BK171.out) hb); have n2_ := am (blk_below (zB BK172.out) hb); have n3_ := am (below_step (zL HB.out) hb); clear BK171 BK172 HB; have HO175 := n0_; have BK171 := n1_; have BK172 := n2_; have HB := n3_; clear n0_ n1_ n2_ n3_; (try clear hb); (try clear hb2); (try clear hk); (try clear hi); (try clear ho0)) | ((with_reducible refine gate_callee (f := 24) rfl ?_); refine goesL_ (some 33) rfl rfl Try.func24 (by kernel_rfl) rfl #[.slice none 0 0, .int .u64 (IntKind.u64.wrap (wrap64 (t176 + 1)))] rfl (by (try simp only [List.map_toArray, List.map_cons, List.map_nil]); first | done | rfl | (simp only [List.length_drop, List.length_take]; rfl)) ?_; (refine (codec_PutUint.calls k _ _ ([] : List Int) (IntKind.u64.wrap (wrap64 (t176 + 1))) t179 _ ?side1 ?side2 A19.out).mono ?_); (case side1 => exact Kd.C_nil _ _); (case side2 => exact Nat.le_refl _); rintro e w37 ⟨v180, rfl, ho0, hb⟩; refine ⟨_, rfl, ?_⟩; have n0_ := am (Kd.R_elder' (zR HO175.out) (Kd.R_base ho0) hb); have n1_ := am (Kd.R_lower (Kd.R_new' ho0 (Kd.R_lt (zR HO175.out))) (below_size (zL HB.out))); have n2_ := am (blk_below (zB BK171.out) hb); have n3_ := am (blk_below (zB BK172.out) hb); have n4_ := am (below_step (zL HB.out) hb); clear HO175 BK171 BK172 HB; have HO175 := n0_; have HO181 := n1_; have BK171 := n2_; have BK172 := n3_; have HB := n4_; clear n0_ n1_ n2_ n3_ n4_; (try clear hb); (try clear hb2); (try clear hk); (try clear hi); (try clear ho0)) | ((with_reducible refine gate_builtin (b := .append) (xs := #[.tmp 33, .tmp 34]) rfl ?_); at_builtin; refine Kd.R_append_rows (Kd.int .u8) (w0 := w) w.heap.size rfl (.tmp 33) (.tmp 34) 22 5 (.int .u8 0) 1 rfl Try.underlying22 info5 rfl (by decide) (by omega) v180 t179 l1 _ _ _ (fun k_ => some k_ ≠ (v174 : Value).ownBlock) (fun _ => False) rfl rfl ?aO ?aR (fun _ _ h => h) (fun _ h => h.elim) ?aF ?aB ?aS ?aL ?_; (case aR => exact zC (Kd.C_below HR1.out HB.out)); (case aB => exact (by repeat (first | (with_reducible first | exact HB.out | apply ba | apply bd | apply be | refine below_set ?_ GE171.out | refine below_set ?_ GE172.out) | exact HB.out))); (case aF => exact (fun k_ hk => Kd.fresh' (Kd.R_lt (zR HO175.out)) k_ hk)); (case aO => exact (by exact zR <| Kd.R_mono HO181.out (fun _ hk => hk.2))); (case aS => exact (below_size (zL HB.out))); (case aL => have := LMc20.out; omega); intro v183 w38 ho hb hg hat; rw [← Ny182.out] at ho; have n0_ := am (blk_grown (g := gb171) (o := .cells #[.slice A0_0 l0_0.length c0_0, .slice A0_1 l0_1.length c0_1] 24 (0, 0)) (zB BK171.out) hg (Kd.R_ne HO181.out BK171.out (by decide))); have n1_ := am (blk_grown (g := gb172) (o := .cells #[.slice none 0 0, .slice none 0 0] 24 (0, 0)) (zB BK172.out) hg (Kd.R_ne HO181.out BK172.out (by decide))); have n2_ := am (Kd.R_after (ok := (fun _ => True)) (zR HO175.out) hg hat); have n3_ := am (hb); have n4_ := am (ho); clear BK171 BK172 HO175 HB HO181; have BK171 := n0_; have BK172 := n1_; have HO175 := n2_; have HB := n3_; have HO184 := n4_; clear n0_ n1_ n2_ n3_ n4_; clear ho hb hg hat; obtain ⟨Ao39, co39, eo39⟩ := Kd.R_slice HO184.out; subst eo39) | ((with_reducible refine gate_callee (f := 23) rfl ?_); refine goesL_ (some 36) rfl rfl Try.func23 (by kernel_rfl) rfl #[.slice Ao39 y182.length co39] rfl (by (try simp only [List.map_toArray, List.map_cons, List.map_nil]); first | done | rfl | (simp only [List.length_drop, List.length_take]; rfl)) ?_; (with_reducible refine (codec_Frame.calls k _ _ y182 t185 t186 _ ?side1 ?side2 A21.out).mono ?_); (case side1 => exact zC (Kd.R_reads' HO184.out).2.2); (case side2 => exact (Kd.R_reads' HO184.out).2.1); rintro e w40 ⟨v187, rfl, ho0, hb⟩; refine ⟨_, rfl, ?_⟩; have n0_ := am (Kd.R_elder' (zR HO175.out) (Kd.R_base ho0) hb); have n1_ := am (Kd.R_elder' (zR HO184.out) (Kd.R_base ho0) hb); have n2_ := am (Kd.R_lower (Kd.R_new' (Kd.R_new' ho0 (Kd.R_lt (zR HO175.out))) (Kd.R_lt (zR HO184.out))) (below_size (zL HB.out))); have n3_ := am (blk_below (zB BK171.out) hb); have n4_ := am (blk_below (zB BK172.out) hb); have n5_ := am (below_step (zL HB.out) hb); clear HO175 HO184 BK171 BK172 HB; have HO175 := n0_; have HO184 := n1_; have HO188 := n2_; have BK171 := n3_; have BK172 := n4_; have HB := n5_; clear n0_ n1_ n2_ n3_ n4_ n5_; (try clear hb); (try clear hb2); (try clear hk); (try clear hi); (try clear ho0)))
     have n0_ := am (Kd.R_drew HO175.out)
     have n1_ := am (Kd.R_drew HO184.out)
     have n2_ := am (Kd.R_drew HO188.out)
     have n3_ := am (blk_drew BK171.out)
     have n4_ := am (blk_drew BK172.out)
     have n5_ := am (below_drew1 HB.out)
     clear HO175 HO184 HO188 BK171 BK172 HB
     have HO175 := n0_
     have HO184 := n1_
     have HO188 := n2_
     have BK171 := n3_
     have BK172 := n4_
     have HB := n5_
     clear n0_ n1_ n2_ n3_ n4_ n5_
     refine start_ (n := 9) (S := fun w' => w'.cell? ⟨gb171, 0, none⟩ = some (.slice A0_0 l0_0.length c0_0) ∧ w'.cell? ⟨gb171, 1, none⟩ = some (.slice A0_1 l0_1.length c0_1)) (ds := []) #[false, false, false, false, false, false, false, false, false] (by kernel_rfl) rfl rfl ⟨(blk_cell BK171.out 0).trans rfl, (blk_cell BK171.out 1).trans rfl⟩ (fun hHeld => ?_); refine with_tabW stable_Torn.tab9 stable_Torn.bits9 (fun HT_ HW_ => ?_)
     generalize w40.drew = w41 at HO175 HO184 HO188 BK171 BK172 HB hHeld ⊢
     refine pure_ (i := 0) (N := some 43) (v := ?_) (a' := ?_) #[true, false, false, false, false, false, false, false, false] rfl rfl (any_of HT_.out (by kernel_rfl)) (fun _ _ _ h => h) (Or.inl ⟨by rfl, ?_⟩) ?_ ?_
     rotate_left
     ·intro w'
      go_simp
      with_reducible rfl
     rotate_left
     ·simp only [Act.put, List.setIfInBounds_toArray, List.set_cons_zero, List.set_cons_succ, i64_w, i32_w]
      rfl
     refine pure_ (i := 3) (N := some 46) (v := ?_) (a' := ?_) #[true, false, false, true, false, false, false, false, false] rfl rfl (any_of HT_.out (by kernel_rfl)) (fun _ _ _ h => h) (Or.inl ⟨by rfl, ?_⟩) ?_ ?_
     rotate_left
     ·intro w'
      go_simp
      with_reducible rfl
     rotate_left
     ·simp only [Act.put, List.setIfInBounds_toArray, List.set_cons_zero, List.set_cons_succ, i64_w, i32_w]
      rfl
     refine take_ (i := 1) (N := some 44) (v := ?_) (a' := ?_) #[true, true, false, true, false, false, false, false, false] rfl rfl (take_ofW HT_.out HW_.out (by kernel_rfl)) (fun _ _ _ h => h) (Or.inl ⟨by rfl, ?_⟩) hHeld ?_ ?_
     rotate_left
     ·rintro w' ⟨s0, s1⟩
      go_simp
      with_reducible rfl
     rotate_left
     ·simp only [Act.put, List.setIfInBounds_toArray, List.set_cons_zero, List.set_cons_succ, i64_w, i32_w]
      rfl
     refine take_ (i := 4) (N := some 47) (v := ?_) (a' := ?_) #[true, true, false, true, true, false, false, false, false] rfl rfl (take_ofW HT_.out HW_.out (by kernel_rfl)) (fun _ _ _ h => h) (Or.inl ⟨by rfl, ?_⟩) hHeld ?_ ?_
     rotate_left
     ·rintro w' ⟨s0, s1⟩
      go_simp
      with_reducible rfl
     rotate_left
     ·simp only [Act.put, List.setIfInBounds_toArray, List.set_cons_zero, List.set_cons_succ, i64_w, i32_w]
      rfl
     refine join_ (σ := Value × Value × Nat) 1 #[true, true, true, true, true, true, true, true, false] (fun s_ => [(45, s_.1), (48, s_.2.1), (14, .pointer (some ⟨s_.2.2, 0, none⟩)), (49, .agg #[s_.1, s_.2.1])]) (fun s_ w' => (w'.cell? ⟨gb171, 0, none⟩ = some (.slice A0_0 l0_0.length c0_0) ∧ w'.cell? ⟨gb171, 1, none⟩ = some (.slice A0_1 l0_1.length c0_1)) ∧ (Kd.R (Kd.int .u8) 5 w' w.heap.size (fun k_ => some k_ ≠ (.slice Ao39 y182.length co39 : Value).ownBlock ∧ some k_ ≠ (v187 : Value).ownBlock ∧ some k_ ≠ (s_.1 : Value).ownBlock ∧ some k_ ≠ (s_.2.1 : Value).ownBlock) v174 t173) ∧ (Kd.R (Kd.int .u8) 5 w' w.heap.size (fun k_ => some k_ ≠ (v174 : Value).ownBlock ∧ some k_ ≠ (v187 : Value).ownBlock ∧ some k_ ≠ (s_.1 : Value).ownBlock ∧ some k_ ≠ (s_.2.1 : Value).ownBlock) (.slice Ao39 y182.length co39) y182) ∧ (Kd.R (Kd.int .u8) 5 w' w.heap.size (fun k_ => some k_ ≠ (v174 : Value).ownBlock ∧ some k_ ≠ (.slice Ao39 y182.length co39 : Value).ownBlock ∧ some k_ ≠ (s_.1 : Value).ownBlock ∧ some k_ ≠ (s_.2.1 : Value).ownBlock) v187 t185) ∧ (Kd.R (Kd.int .u8) 5 w' w.heap.size (fun k_ => some k_ ≠ (v174 : Value).ownBlock ∧ some k_ ≠ (.slice Ao39 y182.length co39 : Value).ownBlock ∧ some k_ ≠ (v187 : Value).ownBlock ∧ some k_ ≠ (s_.2.1 : Value).ownBlock) s_.1 t189) ∧ (Kd.R (Kd.int .u8) 5 w' w.heap.size (fun k_ => some k_ ≠ (v174 : Value).ownBlock ∧ some k_ ≠ (.slice Ao39 y182.length co39 : Value).ownBlock ∧ some k_ ≠ (v187 : Value).ownBlock ∧ some k_ ≠ (s_.1 : Value).ownBlock) s_.2.1 t192) ∧ (w'.heap[gb171]? = some (.cells #[.slice A0_0 l0_0.length c0_0, .slice A0_1 l0_1.length c0_1] 24 (0, 0))) ∧ (w'.heap[gb172]? = some (.cells #[.slice none 0 0, .slice none 0 0] 24 (0, 0))) ∧ (w'.heap[s_.2.2]? = some (.cells #[.slice none 0 0, .slice none 0 0] 54 (0, 0))) ∧ (w.heap.size ≤ s_.2.2) ∧ (w.heap.size ≤ s_.2.2) ∧ (gb171 ≠ s_.2.2) ∧ (s_.2.2 ≠ gb171) ∧ (gb172 ≠ s_.2.2) ∧ (s_.2.2 ≠ gb172) ∧ (Below w.heap.size w w')) ?_ ?_
     rotate_left
     ·intro hCont
      refine two_ (i := 2) (j := 7) (Ni := some 45) (Nj := some 14) #[true, true, true, true, true, false, false, false, false] #[true, true, false, true, true, false, false, true, false] rfl rfl rfl rfl (two_of HT_.out (by kernel_rfl)) (by decide) (by decide) (fun K hK => ?_) (fun K hK => ?_)
      ·skip
       refine goes_ Try.func25 (by kernel_rfl) rfl #[.slice A0_0 l0_0.length c0_0] (by rfl) rfl rfl (by (try simp only [List.map_toArray, List.map_cons, List.map_nil]); first | done | rfl | (simp only [List.length_drop, List.length_take]; rfl)) ?_
       with_reducible refine (slices_Clone_byte_byte.calls _ _ l0_0 t189 _ ?side1 ?side2 A23.out).mono ?_
       (case side1 => exact zC (Kd.C_below HR0_0.out HB.out))
       (case side2 => exact HC0_0.out)
       rintro e w42 ⟨v190, rfl, ho0, hb⟩
       refine ⟨_, rfl, ?_⟩
       have n0_ := am (Kd.R_elder' (zR HO175.out) (Kd.R_base ho0) hb)
       have n1_ := am (Kd.R_elder' (zR HO184.out) (Kd.R_base ho0) hb)
       have n2_ := am (Kd.R_elder' (zR HO188.out) (Kd.R_base ho0) hb)
       have n3_ := am (Kd.R_lower (Kd.R_new' (Kd.R_new' (Kd.R_new' ho0 (Kd.R_lt (zR HO175.out))) (Kd.R_lt (zR HO184.out))) (Kd.R_lt (zR HO188.out))) (below_size (zL HB.out)))
       have n4_ := am (blk_below (zB BK171.out) hb)
       have n5_ := am (blk_below (zB BK172.out) hb)
       have n6_ := am (below_step (zL HB.out) hb)
       clear HO175 HO184 HO188 BK171 BK172 HB
       have HO175 := n0_
       have HO184 := n1_
       have HO188 := n2_
       have HO191 := n3_
       have BK171 := n4_
       have BK172 := n5_
       have HB := n6_
       clear n0_ n1_ n2_ n3_ n4_ n5_ n6_
       (try clear hb)
       (try clear hb2)
       (try clear hk)
       (try clear hi)
       (try clear ho0)
       refine hK.out _ _ ⟨(blk_cell BK171.out 0).trans rfl, (blk_cell BK171.out 1).trans rfl⟩ (fun hHeld => ?_)
       clear hK K
       refine norm_ (a' := ?_) ?_ ?_
       rotate_left
       ·show Act.put _ (some 45) _ = _
        simp only [Act.put, List.setIfInBounds_toArray, List.set_cons_zero, List.set_cons_succ, i64_w, i32_w]
        rfl
       refine two_ (i := 5) (j := 7) (Ni := some 48) (Nj := some 14) #[true, true, true, true, true, true, false, false, false] #[true, true, true, true, true, false, false, true, false] rfl rfl rfl rfl (two_of HT_.out (by kernel_rfl)) (by decide) (by decide) (fun K hK => ?_) (fun K hK => ?_)
       ·skip
        refine goes_ Try.func25 (by kernel_rfl) rfl #[.slice A0_1 l0_1.length c0_1] (by rfl) rfl rfl (by (try simp only [List.map_toArray, List.map_cons, List.map_nil]); first | done | rfl | (simp only [List.length_drop, List.length_take]; rfl)) ?_
        with_reducible refine (slices_Clone_byte_byte.calls _ _ l0_1 t192 _ ?side1 ?side2 A24.out).mono ?_
        (case side1 => exact zC (Kd.C_below HR0_1.out HB.out))
        (case side2 => exact HC0_1.out)
        rintro e w43 ⟨v193, rfl, ho0, hb⟩
        refine ⟨_, rfl, ?_⟩
        have n0_ := am (Kd.R_elder' (zR HO175.out) (Kd.R_base ho0) hb)
        have n1_ := am (Kd.R_elder' (zR HO184.out) (Kd.R_base ho0) hb)
        have n2_ := am (Kd.R_elder' (zR HO188.out) (Kd.R_base ho0) hb)
        have n3_ := am (Kd.R_elder' (zR HO191.out) (Kd.R_base ho0) hb)
        have n4_ := am (Kd.R_lower (Kd.R_new' (Kd.R_new' (Kd.R_new' (Kd.R_new' ho0 (Kd.R_lt (zR HO175.out))) (Kd.R_lt (zR HO184.out))) (Kd.R_lt (zR HO188.out))) (Kd.R_lt (zR HO191.out))) (below_size (zL HB.out)))
        have n5_ := am (blk_below (zB BK171.out) hb)
        have n6_ := am (blk_below (zB BK172.out) hb)
        have n7_ := am (below_step (zL HB.out) hb)
        clear HO175 HO184 HO188 HO191 BK171 BK172 HB
        have HO175 := n0_
        have HO184 := n1_
        have HO188 := n2_
        have HO191 := n3_
        have HO194 := n4_
        have BK171 := n5_
        have BK172 := n6_
        have HB := n7_
        clear n0_ n1_ n2_ n3_ n4_ n5_ n6_ n7_
        (try clear hb)
        (try clear hb2)
        (try clear hk)
        (try clear hi)
        (try clear ho0)
        obtain ⟨Ao44, co44, eo44⟩ := Kd.R_slice HO194.out
        (first | subst eo44 | (injection eo44 with f1_ f2_ f3_; have f4_ := f1_.symm; have f5_ := f3_.symm; clear f1_ f2_ f3_; subst f4_; subst f5_))
        obtain ⟨Ao45, co45, eo45⟩ := Kd.R_slice HO191.out
        (first | subst eo45 | (injection eo45 with f1_ f2_ f3_; have f4_ := f1_.symm; have f5_ := f3_.symm; clear f1_ f2_ f3_; subst f4_; subst f5_))
        refine hK.out _ _ ⟨(blk_cell BK171.out 0).trans rfl, (blk_cell BK171.out 1).trans rfl⟩ (fun hHeld => ?_)
        clear hK K
        refine norm_ (a' := ?_) ?_ ?_
        rotate_left
        ·show Act.put _ (some 48) _ = _
         simp only [Act.put, List.setIfInBounds_toArray, List.set_cons_zero, List.set_cons_succ, i64_w, i32_w]
         rfl
        refine pure_ (i := 6) (N := some 49) (v := ?_) (a' := ?_) #[true, true, true, true, true, true, true, false, false] rfl rfl (any_of HT_.out (by kernel_rfl)) (fun _ _ _ h => h) (Or.inl ⟨by rfl, ?_⟩) ?_ ?_
        rotate_left
        ·intro w'
         go_simp
         with_reducible rfl
        rotate_left
        ·simp only [Act.put, List.setIfInBounds_toArray, List.set_cons_zero, List.set_cons_succ, i64_w, i32_w]
         rfl
        refine one_ (i := 7) (N := some 14) #[true, true, true, true, true, true, true, true, false] rfl rfl (one_of HT_.out (by kernel_rfl)) (by decide) (fun K hK => ?_)
        refine box_step ?hg (N := 14) ?hd (cs := #[.slice none 0 0, .slice none 0 0]) (t := 54) ?hr ?_; (case hd => rfl); (case hg => rfl); (case hr => first | (go_simp; done) | (go_simp; rfl))
        intro gb195 hg w46 hbox hb
        have n0_ := am (Kd.R_below (zR HO175.out) hb)
        have n1_ := am (Kd.R_below (zR HO184.out) hb)
        have n2_ := am (Kd.R_below (zR HO188.out) hb)
        have n3_ := am (Kd.R_below (zR HO191.out) hb)
        have n4_ := am (Kd.R_below (zR HO194.out) hb)
        have n5_ := am (blk_below (zB BK171.out) hb)
        have n6_ := am (blk_below (zB BK172.out) hb)
        have n7_ := am (below_step (zL HB.out) hb)
        have n8_ := am (hbox)
        have n9_ := am (zS hg HB.out)
        have n10_ := am (zS hg HB.out)
        have n11_ := am (zN hg BK171.out)
        have n12_ := am (zM hg BK171.out)
        have n13_ := am (zN hg BK172.out)
        have n14_ := am (zM hg BK172.out)
        clear HO175 HO184 HO188 HO191 HO194 BK171 BK172 HB
        have HO175 := n0_
        have HO184 := n1_
        have HO188 := n2_
        have HO191 := n3_
        have HO194 := n4_
        have BK171 := n5_
        have BK172 := n6_
        have HB := n7_
        have BK195 := n8_
        have GW195 := n9_
        have GE195 := n10_
        have NB171_195 := n11_
        have NB195_171 := n12_
        have NB172_195 := n13_
        have NB195_172 := n14_
        clear n0_ n1_ n2_ n3_ n4_ n5_ n6_ n7_ n8_ n9_ n10_ n11_ n12_ n13_ n14_
        clear hb hbox hg
        refine hK.out _ _ ⟨(blk_cell BK171.out 0).trans rfl, (blk_cell BK171.out 1).trans rfl⟩ (fun hHeld => ?_)
        clear hK K
        refine norm_ (a' := ?_) ?_ ?_
        rotate_left
        ·show Act.put _ (some 14) _ = _
         simp only [Act.put, List.setIfInBounds_toArray, List.set_cons_zero, List.set_cons_succ, i64_w, i32_w]
         rfl
        exact norm_ (by simp only [putAll, Act.put, List.setIfInBounds_toArray, List.set_cons_zero, List.set_cons_succ]) (hCont (.slice Ao45 t189.length co45, .slice Ao44 t192.length co44, gb195) _ ⟨hHeld, (by exact zR <| Kd.R_mono HO175.out (fun _ hk => ⟨hk.1.1.1.2, ⟨hk.1.1.2, ⟨hk.1.2, hk.2⟩⟩⟩)), (by exact zR <| Kd.R_mono HO184.out (fun _ hk => ⟨hk.1.1.1, ⟨hk.1.1.2, ⟨hk.1.2, hk.2⟩⟩⟩)), (by exact zR <| Kd.R_mono HO188.out (fun _ hk => ⟨hk.1.1.1.2, ⟨hk.1.1.2, ⟨hk.1.2, hk.2⟩⟩⟩)), (by exact zR <| Kd.R_mono HO191.out (fun _ hk => ⟨hk.1.1.1.2, ⟨hk.1.1.2, ⟨hk.1.2, hk.2⟩⟩⟩)), (by exact zR <| Kd.R_mono HO194.out (fun _ hk => ⟨hk.1.1.1.2, ⟨hk.1.1.2, ⟨hk.1.2, hk.2⟩⟩⟩)), (zB BK171.out), (zB BK172.out), (zB BK195.out), GW195.out, GE195.out, NB171_195.out, NB195_171.out, NB172_195.out, NB195_172.out, (by repeat (first | (with_reducible first | exact HB.out | apply ba | apply bd | apply be | refine below_set ?_ GE171.out | refine below_set ?_ GE172.out | refine below_set ?_ GE195.out) | exact HB.out))⟩)
       ·skip
        refine box_step ?hg (N := 14) ?hd (cs := #[.slice none 0 0, .slice none 0 0]) (t := 54) ?hr ?_; (case hd => rfl); (case hg => rfl); (case hr => first | (go_simp; done) | (go_simp; rfl))
        intro gb195 hg w43 hbox hb
        have n0_ := am (Kd.R_below (zR HO175.out) hb)
        have n1_ := am (Kd.R_below (zR HO184.out) hb)
        have n2_ := am (Kd.R_below (zR HO188.out) hb)
        have n3_ := am (Kd.R_below (zR HO191.out) hb)
        have n4_ := am (blk_below (zB BK171.out) hb)
        have n5_ := am (blk_below (zB BK172.out) hb)
        have n6_ := am (below_step (zL HB.out) hb)
        have n7_ := am (hbox)
        have n8_ := am (zS hg HB.out)
        have n9_ := am (zS hg HB.out)
        have n10_ := am (zN hg BK171.out)
        have n11_ := am (zM hg BK171.out)
        have n12_ := am (zN hg BK172.out)
        have n13_ := am (zM hg BK172.out)
        clear HO175 HO184 HO188 HO191 BK171 BK172 HB
        have HO175 := n0_
        have HO184 := n1_
        have HO188 := n2_
        have HO191 := n3_
        have BK171 := n4_
        have BK172 := n5_
        have HB := n6_
        have BK195 := n7_
        have GW195 := n8_
        have GE195 := n9_
        have NB171_195 := n10_
        have NB195_171 := n11_
        have NB172_195 := n12_
        have NB195_172 := n13_
        clear n0_ n1_ n2_ n3_ n4_ n5_ n6_ n7_ n8_ n9_ n10_ n11_ n12_ n13_
        clear hb hbox hg
        refine hK.out _ _ ⟨(blk_cell BK171.out 0).trans rfl, (blk_cell BK171.out 1).trans rfl⟩ (fun hHeld => ?_)
        clear hK K
        refine norm_ (a' := ?_) ?_ ?_
        rotate_left
        ·show Act.put _ (some 14) _ = _
         simp only [Act.put, List.setIfInBounds_toArray, List.set_cons_zero, List.set_cons_succ, i64_w, i32_w]
         rfl
        refine one_ (i := 5) (N := some 48) #[true, true, true, true, true, true, false, true, false] rfl rfl (one_of HT_.out (by kernel_rfl)) (by decide) (fun K hK => ?_)
        refine goes_ Try.func25 (by kernel_rfl) rfl #[.slice A0_1 l0_1.length c0_1] (by rfl) rfl rfl (by (try simp only [List.map_toArray, List.map_cons, List.map_nil]); first | done | rfl | (simp only [List.length_drop, List.length_take]; rfl)) ?_
        with_reducible refine (slices_Clone_byte_byte.calls _ _ l0_1 t192 _ ?side1 ?side2 A24.out).mono ?_
        (case side1 => exact zC (Kd.C_below HR0_1.out HB.out))
        (case side2 => exact HC0_1.out)
        rintro e w44 ⟨v193, rfl, ho0, hb⟩
        refine ⟨_, rfl, ?_⟩
        have n0_ := am (Kd.R_elder' (zR HO175.out) (Kd.R_base ho0) hb)
        have n1_ := am (Kd.R_elder' (zR HO184.out) (Kd.R_base ho0) hb)
        have n2_ := am (Kd.R_elder' (zR HO188.out) (Kd.R_base ho0) hb)
        have n3_ := am (Kd.R_elder' (zR HO191.out) (Kd.R_base ho0) hb)
        have n4_ := am (Kd.R_lower (Kd.R_new' (Kd.R_new' (Kd.R_new' (Kd.R_new' ho0 (Kd.R_lt (zR HO175.out))) (Kd.R_lt (zR HO184.out))) (Kd.R_lt (zR HO188.out))) (Kd.R_lt (zR HO191.out))) (below_size (zL HB.out)))
        have n5_ := am (blk_below (zB BK171.out) hb)
        have n6_ := am (blk_below (zB BK172.out) hb)
        have n7_ := am (blk_below (zB BK195.out) hb)
        have n8_ := am (below_step (zL HB.out) hb)
        clear HO175 HO184 HO188 HO191 BK171 BK172 BK195 HB
        have HO175 := n0_
        have HO184 := n1_
        have HO188 := n2_
        have HO191 := n3_
        have HO194 := n4_
        have BK171 := n5_
        have BK172 := n6_
        have BK195 := n7_
        have HB := n8_
        clear n0_ n1_ n2_ n3_ n4_ n5_ n6_ n7_ n8_
        (try clear hb)
        (try clear hb2)
        (try clear hk)
        (try clear hi)
        (try clear ho0)
        obtain ⟨Ao45, co45, eo45⟩ := Kd.R_slice HO194.out
        (first | subst eo45 | (injection eo45 with f1_ f2_ f3_; have f4_ := f1_.symm; have f5_ := f3_.symm; clear f1_ f2_ f3_; subst f4_; subst f5_))
        obtain ⟨Ao46, co46, eo46⟩ := Kd.R_slice HO191.out
        (first | subst eo46 | (injection eo46 with f1_ f2_ f3_; have f4_ := f1_.symm; have f5_ := f3_.symm; clear f1_ f2_ f3_; subst f4_; subst f5_))
        refine hK.out _ _ ⟨(blk_cell BK171.out 0).trans rfl, (blk_cell BK171.out 1).trans rfl⟩ (fun hHeld => ?_)
        clear hK K
        refine norm_ (a' := ?_) ?_ ?_
        rotate_left
        ·show Act.put _ (some 48) _ = _
         simp only [Act.put, List.setIfInBounds_toArray, List.set_cons_zero, List.set_cons_succ, i64_w, i32_w]
         rfl
        refine pure_ (i := 6) (N := some 49) (v := ?_) (a' := ?_) #[true, true, true, true, true, true, true, true, false] rfl rfl (any_of HT_.out (by kernel_rfl)) (fun _ _ _ h => h) (Or.inl ⟨by rfl, ?_⟩) ?_ ?_
        rotate_left
        ·intro w'
         go_simp
         with_reducible rfl
        rotate_left
        ·simp only [Act.put, List.setIfInBounds_toArray, List.set_cons_zero, List.set_cons_succ, i64_w, i32_w]
         rfl
        exact norm_ (by simp only [putAll, Act.put, List.setIfInBounds_toArray, List.set_cons_zero, List.set_cons_succ]) (hCont (.slice Ao46 t189.length co46, .slice Ao45 t192.length co45, gb195) _ ⟨hHeld, (by exact zR <| Kd.R_mono HO175.out (fun _ hk => ⟨hk.1.1.1.2, ⟨hk.1.1.2, ⟨hk.1.2, hk.2⟩⟩⟩)), (by exact zR <| Kd.R_mono HO184.out (fun _ hk => ⟨hk.1.1.1, ⟨hk.1.1.2, ⟨hk.1.2, hk.2⟩⟩⟩)), (by exact zR <| Kd.R_mono HO188.out (fun _ hk => ⟨hk.1.1.1.2, ⟨hk.1.1.2, ⟨hk.1.2, hk.2⟩⟩⟩)), (by exact zR <| Kd.R_mono HO191.out (fun _ hk => ⟨hk.1.1.1.2, ⟨hk.1.1.2, ⟨hk.1.2, hk.2⟩⟩⟩)), (by exact zR <| Kd.R_mono HO194.out (fun _ hk => ⟨hk.1.1.1.2, ⟨hk.1.1.2, ⟨hk.1.2, hk.2⟩⟩⟩)), (zB BK171.out), (zB BK172.out), (zB BK195.out), GW195.out, GE195.out, NB171_195.out, NB195_171.out, NB172_195.out, NB195_172.out, (by repeat (first | (with_reducible first | exact HB.out | apply ba | apply bd | apply be | refine below_set ?_ GE171.out | refine below_set ?_ GE172.out | refine below_set ?_ GE195.out) | exact HB.out))⟩)
      ·skip
       refine box_step ?hg (N := 14) ?hd (cs := #[.slice none 0 0, .slice none 0 0]) (t := 54) ?hr ?_; (case hd => rfl); (case hg => rfl); (case hr => first | (go_simp; done) | (go_simp; rfl))
       intro gb195 hg w42 hbox hb
       have n0_ := am (Kd.R_below (zR HO175.out) hb)
       have n1_ := am (Kd.R_below (zR HO184.out) hb)
       have n2_ := am (Kd.R_below (zR HO188.out) hb)
       have n3_ := am (blk_below (zB BK171.out) hb)
       have n4_ := am (blk_below (zB BK172.out) hb)
       have n5_ := am (below_step (zL HB.out) hb)
       have n6_ := am (hbox)
       have n7_ := am (zS hg HB.out)
       have n8_ := am (zS hg HB.out)
       have n9_ := am (zN hg BK171.out)
       have n10_ := am (zM hg BK171.out)
       have n11_ := am (zN hg BK172.out)
       have n12_ := am (zM hg BK172.out)
       clear HO175 HO184 HO188 BK171 BK172 HB
       have HO175 := n0_
       have HO184 := n1_
       have HO188 := n2_
       have BK171 := n3_
       have BK172 := n4_
       have HB := n5_
       have BK195 := n6_
       have GW195 := n7_
       have GE195 := n8_
       have NB171_195 := n9_
       have NB195_171 := n10_
       have NB172_195 := n11_
       have NB195_172 := n12_
       clear n0_ n1_ n2_ n3_ n4_ n5_ n6_ n7_ n8_ n9_ n10_ n11_ n12_
       clear hb hbox hg
       refine hK.out _ _ ⟨(blk_cell BK171.out 0).trans rfl, (blk_cell BK171.out 1).trans rfl⟩ (fun hHeld => ?_)
       clear hK K
       refine norm_ (a' := ?_) ?_ ?_
       rotate_left
       ·show Act.put _ (some 14) _ = _
        simp only [Act.put, List.setIfInBounds_toArray, List.set_cons_zero, List.set_cons_succ, i64_w, i32_w]
        rfl
       refine one_ (i := 2) (N := some 45) #[true, true, true, true, true, false, false, true, false] rfl rfl (one_of HT_.out (by kernel_rfl)) (by decide) (fun K hK => ?_)
       refine goes_ Try.func25 (by kernel_rfl) rfl #[.slice A0_0 l0_0.length c0_0] (by rfl) rfl rfl (by (try simp only [List.map_toArray, List.map_cons, List.map_nil]); first | done | rfl | (simp only [List.length_drop, List.length_take]; rfl)) ?_
       with_reducible refine (slices_Clone_byte_byte.calls _ _ l0_0 t189 _ ?side1 ?side2 A23.out).mono ?_
       (case side1 => exact zC (Kd.C_below HR0_0.out HB.out))
       (case side2 => exact HC0_0.out)
       rintro e w43 ⟨v190, rfl, ho0, hb⟩
       refine ⟨_, rfl, ?_⟩
       have n0_ := am (Kd.R_elder' (zR HO175.out) (Kd.R_base ho0) hb)
       have n1_ := am (Kd.R_elder' (zR HO184.out) (Kd.R_base ho0) hb)
       have n2_ := am (Kd.R_elder' (zR HO188.out) (Kd.R_base ho0) hb)
       have n3_ := am (Kd.R_lower (Kd.R_new' (Kd.R_new' (Kd.R_new' ho0 (Kd.R_lt (zR HO175.out))) (Kd.R_lt (zR HO184.out))) (Kd.R_lt (zR HO188.out))) (below_size (zL HB.out)))
       have n4_ := am (blk_below (zB BK171.out) hb)
       have n5_ := am (blk_below (zB BK172.out) hb)
       have n6_ := am (blk_below (zB BK195.out) hb)
       have n7_ := am (below_step (zL HB.out) hb)
       clear HO175 HO184 HO188 BK171 BK172 BK195 HB
       have HO175 := n0_
       have HO184 := n1_
       have HO188 := n2_
       have HO191 := n3_
       have BK171 := n4_
       have BK172 := n5_
       have BK195 := n6_
       have HB := n7_
       clear n0_ n1_ n2_ n3_ n4_ n5_ n6_ n7_
       (try clear hb)
       (try clear hb2)
       (try clear hk)
       (try clear hi)
       (try clear ho0)
       refine hK.out _ _ ⟨(blk_cell BK171.out 0).trans rfl, (blk_cell BK171.out 1).trans rfl⟩ (fun hHeld => ?_)
       clear hK K
       refine norm_ (a' := ?_) ?_ ?_
       rotate_left
       ·show Act.put _ (some 45) _ = _
        simp only [Act.put, List.setIfInBounds_toArray, List.set_cons_zero, List.set_cons_succ, i64_w, i32_w]
        rfl
       refine one_ (i := 5) (N := some 48) #[true, true, true, true, true, true, false, true, false] rfl rfl (one_of HT_.out (by kernel_rfl)) (by decide) (fun K hK => ?_)
       refine goes_ Try.func25 (by kernel_rfl) rfl #[.slice A0_1 l0_1.length c0_1] (by rfl) rfl rfl (by (try simp only [List.map_toArray, List.map_cons, List.map_nil]); first | done | rfl | (simp only [List.length_drop, List.length_take]; rfl)) ?_
       with_reducible refine (slices_Clone_byte_byte.calls _ _ l0_1 t192 _ ?side1 ?side2 A24.out).mono ?_
       (case side1 => exact zC (Kd.C_below HR0_1.out HB.out))
       (case side2 => exact HC0_1.out)
       rintro e w44 ⟨v193, rfl, ho0, hb⟩
       refine ⟨_, rfl, ?_⟩
       have n0_ := am (Kd.R_elder' (zR HO175.out) (Kd.R_base ho0) hb)
       have n1_ := am (Kd.R_elder' (zR HO184.out) (Kd.R_base ho0) hb)
       have n2_ := am (Kd.R_elder' (zR HO188.out) (Kd.R_base ho0) hb)
       have n3_ := am (Kd.R_elder' (zR HO191.out) (Kd.R_base ho0) hb)
       have n4_ := am (Kd.R_lower (Kd.R_new' (Kd.R_new' (Kd.R_new' (Kd.R_new' ho0 (Kd.R_lt (zR HO175.out))) (Kd.R_lt (zR HO184.out))) (Kd.R_lt (zR HO188.out))) (Kd.R_lt (zR HO191.out))) (below_size (zL HB.out)))
       have n5_ := am (blk_below (zB BK171.out) hb)
       have n6_ := am (blk_below (zB BK172.out) hb)
       have n7_ := am (blk_below (zB BK195.out) hb)
       have n8_ := am (below_step (zL HB.out) hb)
       clear HO175 HO184 HO188 HO191 BK171 BK172 BK195 HB
       have HO175 := n0_
       have HO184 := n1_
       have HO188 := n2_
       have HO191 := n3_
       have HO194 := n4_
       have BK171 := n5_
       have BK172 := n6_
       have BK195 := n7_
       have HB := n8_
       clear n0_ n1_ n2_ n3_ n4_ n5_ n6_ n7_ n8_
       (try clear hb)
       (try clear hb2)
       (try clear hk)
       (try clear hi)
       (try clear ho0)
       obtain ⟨Ao45, co45, eo45⟩ := Kd.R_slice HO194.out
       (first | subst eo45 | (injection eo45 with f1_ f2_ f3_; have f4_ := f1_.symm; have f5_ := f3_.symm; clear f1_ f2_ f3_; subst f4_; subst f5_))
       obtain ⟨Ao46, co46, eo46⟩ := Kd.R_slice HO191.out
       (first | subst eo46 | (injection eo46 with f1_ f2_ f3_; have f4_ := f1_.symm; have f5_ := f3_.symm; clear f1_ f2_ f3_; subst f4_; subst f5_))
       refine hK.out _ _ ⟨(blk_cell BK171.out 0).trans rfl, (blk_cell BK171.out 1).trans rfl⟩ (fun hHeld => ?_)
       clear hK K
       refine norm_ (a' := ?_) ?_ ?_
       rotate_left
       ·show Act.put _ (some 48) _ = _
        simp only [Act.put, List.setIfInBounds_toArray, List.set_cons_zero, List.set_cons_succ, i64_w, i32_w]
        rfl
       refine pure_ (i := 6) (N := some 49) (v := ?_) (a' := ?_) #[true, true, true, true, true, true, true, true, false] rfl rfl (any_of HT_.out (by kernel_rfl)) (fun _ _ _ h => h) (Or.inl ⟨by rfl, ?_⟩) ?_ ?_
       rotate_left
       ·intro w'
        go_simp
        with_reducible rfl
       rotate_left
       ·simp only [Act.put, List.setIfInBounds_toArray, List.set_cons_zero, List.set_cons_succ, i64_w, i32_w]
        rfl
       exact norm_ (by simp only [putAll, Act.put, List.setIfInBounds_toArray, List.set_cons_zero, List.set_cons_succ]) (hCont (.slice Ao46 t189.length co46, .slice Ao45 t192.length co45, gb195) _ ⟨hHeld, (by exact zR <| Kd.R_mono HO175.out (fun _ hk => ⟨hk.1.1.1.2, ⟨hk.1.1.2, ⟨hk.1.2, hk.2⟩⟩⟩)), (by exact zR <| Kd.R_mono HO184.out (fun _ hk => ⟨hk.1.1.1, ⟨hk.1.1.2, ⟨hk.1.2, hk.2⟩⟩⟩)), (by exact zR <| Kd.R_mono HO188.out (fun _ hk => ⟨hk.1.1.1.2, ⟨hk.1.1.2, ⟨hk.1.2, hk.2⟩⟩⟩)), (by exact zR <| Kd.R_mono HO191.out (fun _ hk => ⟨hk.1.1.1.2, ⟨hk.1.1.2, ⟨hk.1.2, hk.2⟩⟩⟩)), (by exact zR <| Kd.R_mono HO194.out (fun _ hk => ⟨hk.1.1.1.2, ⟨hk.1.1.2, ⟨hk.1.2, hk.2⟩⟩⟩)), (zB BK171.out), (zB BK172.out), (zB BK195.out), GW195.out, GE195.out, NB171_195.out, NB195_171.out, NB172_195.out, NB195_172.out, (by repeat (first | (with_reducible first | exact HB.out | apply ba | apply bd | apply be | refine below_set ?_ GE171.out | refine below_set ?_ GE172.out | refine below_set ?_ GE195.out) | exact HB.out))⟩)
     rintro ⟨v190, v193, gb195⟩ w47 ⟨hS_, h0_, h1_, h2_, h3_, h4_, h5_, h6_, h7_, h8_, h9_, h10_, h11_, h12_, h13_, h14_⟩
     have n0_ : Aside0 (Kd.R (Kd.int .u8) 5 w47 w.heap.size (fun k_ => some k_ ≠ (.slice Ao39 y182.length co39 : Value).ownBlock ∧ some k_ ≠ (v187 : Value).ownBlock ∧ some k_ ≠ (v190 : Value).ownBlock ∧ some k_ ≠ (v193 : Value).ownBlock) v174 t173) := ⟨h0_⟩
     have n1_ : Aside0 (Kd.R (Kd.int .u8) 5 w47 w.heap.size (fun k_ => some k_ ≠ (v174 : Value).ownBlock ∧ some k_ ≠ (v187 : Value).ownBlock ∧ some k_ ≠ (v190 : Value).ownBlock ∧ some k_ ≠ (v193 : Value).ownBlock) (.slice Ao39 y182.length co39) y182) := ⟨h1_⟩
     have n2_ : Aside0 (Kd.R (Kd.int .u8) 5 w47 w.heap.size (fun k_ => some k_ ≠ (v174 : Value).ownBlock ∧ some k_ ≠ (.slice Ao39 y182.length co39 : Value).ownBlock ∧ some k_ ≠ (v190 : Value).ownBlock ∧ some k_ ≠ (v193 : Value).ownBlock) v187 t185) := ⟨h2_⟩
     have n3_ : Aside0 (Kd.R (Kd.int .u8) 5 w47 w.heap.size (fun k_ => some k_ ≠ (v174 : Value).ownBlock ∧ some k_ ≠ (.slice Ao39 y182.length co39 : Value).ownBlock ∧ some k_ ≠ (v187 : Value).ownBlock ∧ some k_ ≠ (v193 : Value).ownBlock) v190 t189) := ⟨h3_⟩
     have n4_ : Aside0 (Kd.R (Kd.int .u8) 5 w47 w.heap.size (fun k_ => some k_ ≠ (v174 : Value).ownBlock ∧ some k_ ≠ (.slice Ao39 y182.length co39 : Value).ownBlock ∧ some k_ ≠ (v187 : Value).ownBlock ∧ some k_ ≠ (v190 : Value).ownBlock) v193 t192) := ⟨h4_⟩
     have n5_ : Aside0 (w47.heap[gb171]? = some (.cells #[.slice A0_0 l0_0.length c0_0, .slice A0_1 l0_1.length c0_1] 24 (0, 0))) := ⟨h5_⟩
     have n6_ : Aside0 (w47.heap[gb172]? = some (.cells #[.slice none 0 0, .slice none 0 0] 24 (0, 0))) := ⟨h6_⟩
     have n7_ : Aside0 (w47.heap[gb195]? = some (.cells #[.slice none 0 0, .slice none 0 0] 54 (0, 0))) := ⟨h7_⟩
     have n8_ : Aside0 (w.heap.size ≤ gb195) := ⟨h8_⟩
     have n9_ : Aside0 (w.heap.size ≤ gb195) := ⟨h9_⟩
     have n10_ : Aside0 (gb171 ≠ gb195) := ⟨h10_⟩
     have n11_ : Aside0 (gb195 ≠ gb171) := ⟨h11_⟩
     have n12_ : Aside0 (gb172 ≠ gb195) := ⟨h12_⟩
     have n13_ : Aside0 (gb195 ≠ gb172) := ⟨h13_⟩
     have n14_ : Aside0 (Below w.heap.size w w47) := ⟨h14_⟩
     clear HO175 HO184 HO188 BK171 BK172 HB
     clear h0_ h1_ h2_ h3_ h4_ h5_ h6_ h7_ h8_ h9_ h10_ h11_ h12_ h13_ h14_
     have HO175 := n0_
     have HO184 := n1_
     have HO188 := n2_
     have HO191 := n3_
     have HO194 := n4_
     have BK171 := n5_
     have BK172 := n6_
     have BK195 := n7_
     have GW195 := n8_
     have GE195 := n9_
     have NB171_195 := n10_
     have NB195_171 := n11_
     have NB172_195 := n12_
     have NB195_172 := n13_
     have HB := n14_
     clear n0_ n1_ n2_ n3_ n4_ n5_ n6_ n7_ n8_ n9_ n10_ n11_ n12_ n13_ n14_
     have hHeld : w47.cell? ⟨gb171, 0, none⟩ = some (.slice A0_0 l0_0.length c0_0) ∧ w47.cell? ⟨gb171, 1, none⟩ = some (.slice A0_1 l0_1.length c0_1) := hS_
     obtain ⟨Ao48, co48, eo48⟩ := Kd.R_slice HO194.out
     (first | subst eo48 | (injection eo48 with f1_ f2_ f3_; have f4_ := f1_.symm; have f5_ := f3_.symm; clear f1_ f2_ f3_; subst f4_; subst f5_))
     obtain ⟨Ao49, co49, eo49⟩ := Kd.R_slice HO191.out
     (first | subst eo49 | (injection eo49 with f1_ f2_ f3_; have f4_ := f1_.symm; have f5_ := f3_.symm; clear f1_ f2_ f3_; subst f4_; subst f5_))
     refine norm_ (a' := ?_) ?_ ?_
     rotate_left
     ·simp only [putAll, Act.put, List.setIfInBounds_toArray, List.set_cons_zero, List.set_cons_succ]
      rfl
     refine one_ (i := 8) (N := none) #[true, true, true, true, true, true, true, true, true] rfl rfl (one_of HT_.out (by kernel_rfl)) (by decide) (fun K hK => ?_)
     have hs50 : w47.cell? ⟨gb195, 0, none⟩ = some (.slice none 0 0) := (blk_cell BK195.out 0).trans rfl
     have hfs50 := blk_frozen BK195.out 0
     have hns50_0 := NB171_195.out
     have hns50_1 := NB172_195.out
     have hms50_0 := NB195_171.out
     have hms50_1 := NB195_172.out
     have hs51 : w47.cell? ⟨gb195, 1, none⟩ = some (.slice none 0 0) := (blk_cell BK195.out 1).trans rfl
     have hfs51 := blk_frozen BK195.out 1
     have hns51_0 := NB171_195.out
     have hns51_1 := NB172_195.out
     have hms51_0 := NB195_171.out
     have hms51_1 := NB195_172.out
     refine skip_ (w1 := ?_) (by rfl) rfl ?_ ?_
     rotate_left
     ·go_simp
      rfl
     refine hK.out _ _ ⟨((cell_far (p := ⟨gb195, _, none⟩) NB171_195.out _).trans (((cell_far (p := ⟨gb195, _, none⟩) NB171_195.out _).trans (hHeld.1)))), ((cell_far (p := ⟨gb195, _, none⟩) NB171_195.out _).trans (((cell_far (p := ⟨gb195, _, none⟩) NB171_195.out _).trans (hHeld.2))))⟩ (fun hHeld => ?_)
     clear hK K
     refine done_ (done_of HT_.out (by kernel_rfl)) ?_
     have n0_ : Aside0 (Kd.R (Kd.int .u8) 5 ((w47.setCell ⟨gb195, 0, none⟩ (.slice Ao49 t189.length co49)).setCell ⟨gb195, 1, none⟩ (.slice Ao48 t192.length co48)) w.heap.size (fun k_ => some k_ ≠ (.slice Ao39 y182.length co39 : Value).ownBlock ∧ some k_ ≠ (v187 : Value).ownBlock ∧ some k_ ≠ (.slice Ao49 t189.length co49 : Value).ownBlock ∧ some k_ ≠ (.slice Ao48 t192.length co48 : Value).ownBlock) v174 t173) := ⟨by exact zR <| Kd.R_mono (Kd.R_far (p := ⟨gb195, 1, none⟩) (Kd.R_far (p := ⟨gb195, 0, none⟩) (Kd.R_types HO175.out BK195.out (by decide)) (fun _ hk => hk.2) (.slice Ao49 t189.length co49)) (fun _ hk => hk.2) (.slice Ao48 t192.length co48)) (fun _ hk => ⟨hk.1.1, ⟨hk.1.2.1, ⟨hk.1.2.2.1, hk.1.2.2.2⟩⟩⟩)⟩
     have n1_ : Aside0 (Kd.R (Kd.int .u8) 5 ((w47.setCell ⟨gb195, 0, none⟩ (.slice Ao49 t189.length co49)).setCell ⟨gb195, 1, none⟩ (.slice Ao48 t192.length co48)) w.heap.size (fun k_ => some k_ ≠ (v174 : Value).ownBlock ∧ some k_ ≠ (v187 : Value).ownBlock ∧ some k_ ≠ (.slice Ao49 t189.length co49 : Value).ownBlock ∧ some k_ ≠ (.slice Ao48 t192.length co48 : Value).ownBlock) (.slice Ao39 y182.length co39) y182) := ⟨by exact zR <| Kd.R_mono (Kd.R_far (p := ⟨gb195, 1, none⟩) (Kd.R_far (p := ⟨gb195, 0, none⟩) (Kd.R_types HO184.out BK195.out (by decide)) (fun _ hk => hk.2) (.slice Ao49 t189.length co49)) (fun _ hk => hk.2) (.slice Ao48 t192.length co48)) (fun _ hk => ⟨hk.1.1, ⟨hk.1.2.1, ⟨hk.1.2.2.1, hk.1.2.2.2⟩⟩⟩)⟩
     have n2_ : Aside0 (Kd.R (Kd.int .u8) 5 ((w47.setCell ⟨gb195, 0, none⟩ (.slice Ao49 t189.length co49)).setCell ⟨gb195, 1, none⟩ (.slice Ao48 t192.length co48)) w.heap.size (fun k_ => some k_ ≠ (v174 : Value).ownBlock ∧ some k_ ≠ (.slice Ao39 y182.length co39 : Value).ownBlock ∧ some k_ ≠ (.slice Ao49 t189.length co49 : Value).ownBlock ∧ some k_ ≠ (.slice Ao48 t192.length co48 : Value).ownBlock) v187 t185) := ⟨by exact zR <| Kd.R_mono (Kd.R_far (p := ⟨gb195, 1, none⟩) (Kd.R_far (p := ⟨gb195, 0, none⟩) (Kd.R_types HO188.out BK195.out (by decide)) (fun _ hk => hk.2) (.slice Ao49 t189.length co49)) (fun _ hk => hk.2) (.slice Ao48 t192.length co48)) (fun _ hk => ⟨hk.1.1, ⟨hk.1.2.1, ⟨hk.1.2.2.1, hk.1.2.2.2⟩⟩⟩)⟩
     have n3_ : Aside0 (Kd.R (Kd.int .u8) 5 ((w47.setCell ⟨gb195, 0, none⟩ (.slice Ao49 t189.length co49)).setCell ⟨gb195, 1, none⟩ (.slice Ao48 t192.length co48)) w.heap.size (fun k_ => some k_ ≠ (v174 : Value).ownBlock ∧ some k_ ≠ (.slice Ao39 y182.length co39 : Value).ownBlock ∧ some k_ ≠ (v187 : Value).ownBlock ∧ some k_ ≠ (.slice Ao48 t192.length co48 : Value).ownBlock) (.slice Ao49 t189.length co49) t189) := ⟨by exact zR <| Kd.R_mono (Kd.R_far (p := ⟨gb195, 1, none⟩) (Kd.R_far (p := ⟨gb195, 0, none⟩) (Kd.R_types HO191.out BK195.out (by decide)) (fun _ hk => hk.2) (.slice Ao49 t189.length co49)) (fun _ hk => hk.2) (.slice Ao48 t192.length co48)) (fun _ hk => ⟨hk.1.1, ⟨hk.1.2.1, ⟨hk.1.2.2.1, hk.1.2.2.2⟩⟩⟩)⟩
     have n4_ : Aside0 (Kd.R (Kd.int .u8) 5 ((w47.setCell ⟨gb195, 0, none⟩ (.slice Ao49 t189.length co49)).setCell ⟨gb195, 1, none⟩ (.slice Ao48 t192.length co48)) w.heap.size (fun k_ => some k_ ≠ (v174 : Value).ownBlock ∧ some k_ ≠ (.slice Ao39 y182.length co39 : Value).ownBlock ∧ some k_ ≠ (v187 : Value).ownBlock ∧ some k_ ≠ (.slice Ao49 t189.length co49 : Value).ownBlock) (.slice Ao48 t192.length co48) t192) := ⟨by exact zR <| Kd.R_mono (Kd.R_far (p := ⟨gb195, 1, none⟩) (Kd.R_far (p := ⟨gb195, 0, none⟩) (Kd.R_types HO194.out BK195.out (by decide)) (fun _ hk => hk.2) (.slice Ao49 t189.length co49)) (fun _ hk => hk.2) (.slice Ao48 t192.length co48)) (fun _ hk => ⟨hk.1.1, ⟨hk.1.2.1, ⟨hk.1.2.2.1, hk.1.2.2.2⟩⟩⟩)⟩
     have n5_ : Aside0 (((w47.setCell ⟨gb195, 0, none⟩ (.slice Ao49 t189.length co49)).setCell ⟨gb195, 1, none⟩ (.slice Ao48 t192.length co48)).heap[gb171]? = some (.cells #[.slice A0_0 l0_0.length c0_0, .slice A0_1 l0_1.length c0_1] 24 (0, 0))) := ⟨by refine blk_far ?_ NB171_195.out _; refine blk_far ?_ NB171_195.out _; exact zB <| BK171.out⟩
     have n6_ : Aside0 (((w47.setCell ⟨gb195, 0, none⟩ (.slice Ao49 t189.length co49)).setCell ⟨gb195, 1, none⟩ (.slice Ao48 t192.length co48)).heap[gb172]? = some (.cells #[.slice none 0 0, .slice none 0 0] 24 (0, 0))) := ⟨by refine blk_far ?_ NB172_195.out _; refine blk_far ?_ NB172_195.out _; exact zB <| BK172.out⟩
     have n7_ : Aside0 (((w47.setCell ⟨gb195, 0, none⟩ (.slice Ao49 t189.length co49)).setCell ⟨gb195, 1, none⟩ (.slice Ao48 t192.length co48)).heap[gb195]? = some (.cells #[.slice Ao49 t189.length co49, .slice Ao48 t192.length co48] 54 (0, 0))) := ⟨by refine blk_put (cs := #[.slice Ao49 t189.length co49, .slice none 0 0]) ?_ 1 _ rfl; refine blk_put (cs := #[.slice none 0 0, .slice none 0 0]) ?_ 0 _ rfl; exact zB <| BK195.out⟩
     have n8_ : Aside0 (Below w.heap.size w ((w47.setCell ⟨gb195, 0, none⟩ (.slice Ao49 t189.length co49)).setCell ⟨gb195, 1, none⟩ (.slice Ao48 t192.length co48))) := ⟨by repeat (first | (with_reducible first | exact HB.out | apply ba | apply bd | apply be | refine below_set ?_ GE171.out | refine below_set ?_ GE172.out | refine below_set ?_ GE195.out) | exact HB.out)⟩
     (try clear HO175)
     (try clear HO184)
     (try clear HO188)
     (try clear HO191)
     (try clear HO194)
     (try clear BK171)
     (try clear BK172)
     (try clear BK195)
     (try clear HB)
     generalize ((w47.setCell ⟨gb195, 0, none⟩ (.slice Ao49 t189.length co49)).setCell ⟨gb195, 1, none⟩ (.slice Ao48 t192.length co48)) = w52 at n0_ n1_ n2_ n3_ n4_ n5_ n6_ n7_ n8_ ⊢
     have HO175 := n0_
     have HO184 := n1_
     have HO188 := n2_
     have HO191 := n3_
     have HO194 := n4_
     have BK171 := n5_
     have BK172 := n6_
     have BK195 := n7_
     have HB := n8_
     clear n0_ n1_ n2_ n3_ n4_ n5_ n6_ n7_ n8_
     try go_wp2
     have n0_ := am (Kd.R_drew HO175.out)
     have n1_ := am (Kd.R_drew HO184.out)
     have n2_ := am (Kd.R_drew HO188.out)
     have n3_ := am (Kd.R_drew HO191.out)
     have n4_ := am (Kd.R_drew HO194.out)
     have n5_ := am (blk_drew BK171.out)
     have n6_ := am (blk_drew BK172.out)
     have n7_ := am (blk_drew BK195.out)
     have n8_ := am (below_drew1 HB.out)
     clear HO175 HO184 HO188 HO191 HO194 BK171 BK172 BK195 HB
     have HO175 := n0_
     have HO184 := n1_
     have HO188 := n2_
     have HO191 := n3_
     have HO194 := n4_
     have BK171 := n5_
     have BK172 := n6_
     have BK195 := n7_
     have HB := n8_
     clear n0_ n1_ n2_ n3_ n4_ n5_ n6_ n7_ n8_
     have H := H24.out
     clear H24
     by_cases c25 : t178 = true
     ·subst c25
      have H1 : ((stable_number.f (t177 == 0)).bind fun t196 => (if 0 ≤ (mn (mx a2 0) (t185.length : Int)) then (if (mn (mx a2 0) (t185.length : Int)) ≤ (t185.length : Int) then ((some (t185.take ((mn (mx a2 0) (t185.length : Int)) : Int).toNat : List Int)).bind fun y197 => (if t196 = 0 then (some (y197, t192, 0)) else (if t196 = 1 then (some (t189, y197, 0)) else (none)))) else (none)) else (none))) = some (r1, r2, r3) := by rw [if_pos rfl] at H; exact H
      clear H
      have H := H1
      clear H1
      replace H := Option.bind_eq_some_iff.mp H
      obtain ⟨t196, A260, H⟩ := H
      replace H : (if 0 ≤ (mn (mx a2 0) (t185.length : Int)) then (if (mn (mx a2 0) (t185.length : Int)) ≤ (t185.length : Int) then ((some (t185.take ((mn (mx a2 0) (t185.length : Int)) : Int).toNat : List Int)).bind fun y197 => (if t196 = 0 then (some (y197, t192, 0)) else (if t196 = 1 then (some (t189, y197, 0)) else (none)))) else (none)) else (none)) = some (r1, r2, r3) := H
      have A26 := Aside0.mk A260
      clear A260
      obtain ⟨ji27, hji27⟩ : ∃ j_ : Int, (mx a2 0) = j_ := ⟨_, rfl⟩
      replace H : (if 0 ≤ (mn (ji27) (t185.length : Int)) then (if (mn (ji27) (t185.length : Int)) ≤ (t185.length : Int) then ((some (t185.take ((mn (ji27) (t185.length : Int)) : Int).toNat : List Int)).bind fun y197 => (if t196 = 0 then (some (y197, t192, 0)) else (if t196 = 1 then (some (t189, y197, 0)) else (none)))) else (none)) else (none)) = some (r1, r2, r3) := by first | (rw [hji27] at H; exact H) | (simp only [hji27] at H ⊢; exact H)
      (try rw [hji27] at A10)
      (try rw [hji27] at A19)
      (try rw [hji27] at A21)
      (try rw [hji27] at A23)
      (try rw [hji27] at A24)
      (try rw [hji27] at A26)
      (try (have hji27l : 0 ≤ ji27 := by (rw [← hji27]; unfold mx; (repeat' split) <;> omega)))
      (try (have hji27m : 0 ≤ ji27 := by omega))
      have hji27_ : (if a2 < 0 then 0 else a2) = ji27 := hji27
      obtain ⟨ji28, hji28⟩ : ∃ j_ : Int, (mn (ji27) (t185.length : Int)) = j_ := ⟨_, rfl⟩
      replace H : (if 0 ≤ (ji28) then (if (ji28) ≤ (t185.length : Int) then ((some (t185.take ((ji28) : Int).toNat : List Int)).bind fun y197 => (if t196 = 0 then (some (y197, t192, 0)) else (if t196 = 1 then (some (t189, y197, 0)) else (none)))) else (none)) else (none)) = some (r1, r2, r3) := by first | (rw [hji28] at H; exact H) | (simp only [hji28] at H ⊢; exact H)
      (try rw [hji28] at A10)
      (try rw [hji28] at A19)
      (try rw [hji28] at A21)
      (try rw [hji28] at A23)
      (try rw [hji28] at A24)
      (try rw [hji28] at A26)
      have hji28_ : (if (t185.length : Int) < (ji27) then (t185.length : Int) else (ji27)) = ji28 := hji28
      by_cases c29 : 0 ≤ (ji28)
      ·rw [if_pos c29] at H
       have c29b0 := eq_true c29
       have c29b1 : decide (0 ≤ (ji28)) = true := decide_eq_true c29
       clear c29
       by_cases c30 : (ji28) ≤ (t185.length : Int)
       ·rw [if_pos c30] at H
        have c30b0 := eq_true c30
        have c30b1 : decide ((ji28) ≤ (t185.length : Int)) = true := decide_eq_true c30
        clear c30
        obtain ⟨y197, hy197⟩ : ∃ y_ : List Int, y_ = (t185.take ((ji28) : Int).toNat) := ⟨_, rfl⟩
        replace H : (if t196 = 0 then (some (y197, t192, 0)) else (if t196 = 1 then (some (t189, y197, 0)) else (none))) = some (r1, r2, r3) := by first | (rw [hy197]; with_reducible exact H) | (have H2_ := (Option.bind_some _ _).symm.trans H; rw [hy197]; with_reducible exact H2_) | (have H2_ := (Option.bind_some _ _).symm.trans H; with_reducible exact H2_) | with_reducible exact H | (rw [hy197]; exact H) | exact H
        have Ny197 := Aside0.mk hy197
        clear hy197
        by_cases c31 : t196 = 0
        ·rw [if_pos c31] at H
         have c31b0 : (t196 == 0) = true := beq_iff_eq.mpr c31
         have c31b1 : (t196 != 0) = false := bne_eq_false_iff_eq.mpr c31
         clear c31
         simp only [Option.some.injEq, Prod.mk.injEq] at H
         obtain ⟨rfl, rfl, rfl⟩ := H
         obtain ⟨Ao54, co54, eo54⟩ := Kd.R_slice HO188.out
         (first | subst eo54 | (injection eo54 with f1_ f2_ f3_; have f4_ := f1_.symm; have f5_ := f3_.symm; clear f1_ f2_ f3_; subst f4_; subst f5_))
         have q55 : ((ji28) : Int) ≤ ((t185.length : Int) : Int) := of_decide_eq_true (by first | (with_reducible assumption) | assumption)
         obtain ⟨i055, hi055, _, hsz55, _⟩ := info_parts info5
         have hcut55 := cut_to (P := Try.prog) 22 5 .i64 Try.underlying22 hi055 Ao54 t185.length co54 (ji28) (of_decide_eq_true (by first | (with_reducible assumption) | assumption)) q55 (Kd.R_reads' HO188.out).2.1
         have hr55 := Kd.R_take (m := ((ji28) : Int).toNat) HO188.out (by omega)
         have hy55 : y197.length = ((ji28) : Int).toNat := (by rw [Ny197.out, List.length_take]; omega)
         rw [← Ny197.out] at hr55
         rw [← hy55] at hr55 hcut55
         clear hy55 hi055 hsz55 HO188
         have HO199 := Aside0.mk hr55
         clear hr55
         have hok_ : (Value.slice Ao54 y197.length co54).ownBlock = (Value.slice Ao54 t185.length co54).ownBlock := by cases Ao54 <;> rfl
         have h_ := HO175.out
         rw [← hok_] at h_
         clear HO175
         have HO175 := Aside0.mk h_
         clear h_
         have h_ := HO184.out
         rw [← hok_] at h_
         clear HO184
         have HO184 := Aside0.mk h_
         clear h_
         have h_ := HO191.out
         rw [← hok_] at h_
         clear HO191
         have HO191 := Aside0.mk h_
         clear h_
         have h_ := HO194.out
         rw [← hok_] at h_
         clear HO194
         have HO194 := Aside0.mk h_
         clear h_ hok_
         replace q55 := eq_true q55
         refine start_ (n := 15) (S := fun w' => True) (ds := []) #[false, false, false, false, false, false, false, false, false, false, false, false, false, false, false] (by kernel_rfl) rfl rfl trivial (fun hHeld => ?_); refine with_tabW stable_Torn.tab10 stable_Torn.bits10 (fun HT_ HW_ => ?_)
         generalize w52.drew = w53 at HO175 HO184 HO191 HO194 BK171 BK172 BK195 HB HO199 hHeld ⊢
         refine pure_ (i := 0) (N := some 50) (v := ?_) (a' := ?_) #[true, false, false, false, false, false, false, false, false, false, false, false, false, false, false] rfl rfl (any_of HT_.out (by kernel_rfl)) (fun _ _ _ h => h) (Or.inl ⟨by rfl, ?_⟩) ?_ ?_
         rotate_left
         ·intro w'
          go_simp
          first | with_reducible rfl | (rw [show t196 = 0 from beq_iff_eq.mp (by assumption)]; rfl)
         rotate_left
         ·simp only [Act.put, List.setIfInBounds_toArray, List.set_cons_zero, List.set_cons_succ, i64_w, i32_w]
          rfl
         refine pure_ (i := 1) (N := some 51) (v := ?_) (a' := ?_) #[true, true, false, false, false, false, false, false, false, false, false, false, false, false, false] rfl rfl (any_of HT_.out (by kernel_rfl)) (fun _ _ _ h => h) (Or.inl ⟨by rfl, ?_⟩) ?_ ?_
         rotate_left
         ·intro w'
          go_simp
          first | with_reducible rfl | (rw [show t196 = 0 from beq_iff_eq.mp (by assumption)]; rfl)
         rotate_left
         ·simp only [Act.put, List.setIfInBounds_toArray, List.set_cons_zero, List.set_cons_succ, i64_w, i32_w]
          rfl
         refine pure_ (i := 2) (N := some 52) (v := ?_) (a' := ?_) #[true, true, true, false, false, false, false, false, false, false, false, false, false, false, false] rfl rfl (any_of HT_.out (by kernel_rfl)) (fun _ _ _ h => h) (Or.inl ⟨by rfl, ?_⟩) ?_ ?_
         rotate_left
         ·intro w'
          go_simp
          first | with_reducible rfl | (rw [show t196 = 0 from beq_iff_eq.mp (by assumption)]; rfl)
         rotate_left
         ·simp only [Act.put, List.setIfInBounds_toArray, List.set_cons_zero, List.set_cons_succ, i64_w, i32_w]
          rfl
         refine pure_ (i := 3) (N := some 53) (v := ?_) (a' := ?_) #[true, true, true, true, false, false, false, false, false, false, false, false, false, false, false] rfl rfl (any_of HT_.out (by kernel_rfl)) (fun _ _ _ h => h) (Or.inl ⟨by rfl, ?_⟩) ?_ ?_
         rotate_left
         ·intro w'
          go_simp
          first | with_reducible rfl | (rw [show t196 = 0 from beq_iff_eq.mp (by assumption)]; rfl)
         rotate_left
         ·simp only [Act.put, List.setIfInBounds_toArray, List.set_cons_zero, List.set_cons_succ, i64_w, i32_w]
          rfl
         refine pure_ (i := 4) (N := some 54) (v := ?_) (a' := ?_) #[true, true, true, true, true, false, false, false, false, false, false, false, false, false, false] rfl rfl (any_of HT_.out (by kernel_rfl)) (fun _ _ _ h => h) (Or.inl ⟨by rfl, ?_⟩) ?_ ?_
         rotate_left
         ·intro w'
          go_simp
          first | with_reducible rfl | (rw [show t196 = 0 from beq_iff_eq.mp (by assumption)]; rfl)
         rotate_left
         ·simp only [Act.put, List.setIfInBounds_toArray, List.set_cons_zero, List.set_cons_succ, i64_w, i32_w]
          rfl
         refine pure_ (i := 6) (N := some 56) (v := ?_) (a' := ?_) #[true, true, true, true, true, false, true, false, false, false, false, false, false, false, false] rfl rfl (any_of HT_.out (by kernel_rfl)) (fun _ _ _ h => h) (Or.inl ⟨by rfl, ?_⟩) ?_ ?_
         rotate_left
         ·intro w'
          go_simp
          first | with_reducible rfl | (rw [show t196 = 0 from beq_iff_eq.mp (by assumption)]; rfl)
         rotate_left
         ·simp only [Act.put, List.setIfInBounds_toArray, List.set_cons_zero, List.set_cons_succ, i64_w, i32_w]
          rfl
         refine pure_ (i := 7) (N := some 57) (v := ?_) (a' := ?_) #[true, true, true, true, true, false, true, true, false, false, false, false, false, false, false] rfl rfl (any_of HT_.out (by kernel_rfl)) (fun _ _ _ h => h) (Or.inl ⟨by rfl, ?_⟩) ?_ ?_
         rotate_left
         ·intro w'
          go_simp
          first | with_reducible rfl | (rw [show t196 = 0 from beq_iff_eq.mp (by assumption)]; rfl)
         rotate_left
         ·simp only [Act.put, List.setIfInBounds_toArray, List.set_cons_zero, List.set_cons_succ, i64_w, i32_w]
          rfl
         refine pure_ (i := 8) (N := some 58) (v := ?_) (a' := ?_) #[true, true, true, true, true, false, true, true, true, false, false, false, false, false, false] rfl rfl (any_of HT_.out (by kernel_rfl)) (fun _ _ _ h => h) (Or.inl ⟨by rfl, ?_⟩) ?_ ?_
         rotate_left
         ·intro w'
          go_simp
          first | with_reducible rfl | (rw [show t196 = 0 from beq_iff_eq.mp (by assumption)]; rfl)
         rotate_left
         ·simp only [Act.put, List.setIfInBounds_toArray, List.set_cons_zero, List.set_cons_succ, i64_w, i32_w]
          rfl
         refine pure_ (i := 9) (N := some 59) (v := ?_) (a' := ?_) #[true, true, true, true, true, false, true, true, true, true, false, false, false, false, false] rfl rfl (any_of HT_.out (by kernel_rfl)) (fun _ _ _ h => h) (Or.inl ⟨by rfl, ?_⟩) ?_ ?_
         rotate_left
         ·intro w'
          go_simp
          first | with_reducible rfl | (rw [show t196 = 0 from beq_iff_eq.mp (by assumption)]; rfl)
         rotate_left
         ·simp only [Act.put, List.setIfInBounds_toArray, List.set_cons_zero, List.set_cons_succ, i64_w, i32_w]
          rfl
         refine pure_ (i := 10) (N := some 60) (v := ?_) (a' := ?_) #[true, true, true, true, true, false, true, true, true, true, true, false, false, false, false] rfl rfl (any_of HT_.out (by kernel_rfl)) (fun _ _ _ h => h) (Or.inl ⟨by rfl, ?_⟩) ?_ ?_
         rotate_left
         ·intro w'
          go_simp
          first | with_reducible rfl | (rw [show t196 = 0 from beq_iff_eq.mp (by assumption)]; rfl)
         rotate_left
         ·simp only [Act.put, List.setIfInBounds_toArray, List.set_cons_zero, List.set_cons_succ, i64_w, i32_w]
          rfl
         refine pure_ (i := 11) (N := some 61) (v := ?_) (a' := ?_) #[true, true, true, true, true, false, true, true, true, true, true, true, false, false, false] rfl rfl (any_of HT_.out (by kernel_rfl)) (fun _ _ _ h => h) (Or.inl ⟨by rfl, ?_⟩) ?_ ?_
         rotate_left
         ·intro w'
          go_simp
          first | with_reducible rfl | (rw [show t196 = 0 from beq_iff_eq.mp (by assumption)]; rfl)
         rotate_left
         ·simp only [Act.put, List.setIfInBounds_toArray, List.set_cons_zero, List.set_cons_succ, i64_w, i32_w]
          rfl
         refine pure_ (i := 12) (N := some 62) (v := ?_) (a' := ?_) #[true, true, true, true, true, false, true, true, true, true, true, true, true, false, false] rfl rfl (any_of HT_.out (by kernel_rfl)) (fun _ _ _ h => h) (Or.inl ⟨by rfl, ?_⟩) ?_ ?_
         rotate_left
         ·intro w'
          go_simp
          first | with_reducible rfl | (rw [show t196 = 0 from beq_iff_eq.mp (by assumption)]; rfl)
         rotate_left
         ·simp only [Act.put, List.setIfInBounds_toArray, List.set_cons_zero, List.set_cons_succ, i64_w, i32_w]
          rfl
         refine one_ (i := 5) (N := some 55) #[true, true, true, true, true, true, true, true, true, true, true, true, true, false, false] rfl rfl (one_of HT_.out (by kernel_rfl)) (by decide) (fun K hK => ?_)
         refine goes_ Try.func26 (by kernel_rfl) rfl #[.bool (t177 == 0)] (by rfl) rfl rfl (by (try simp only [List.map_toArray, List.map_cons, List.map_nil]); first | done | rfl | (simp only [List.length_drop, List.length_take]; rfl)) ?_
         with_reducible refine (stable_number.calls (t177 == 0) t196 _ A26.out).mono ?_
         rintro e w' ⟨rfl, ⟨nd, rfl⟩⟩
         refine ⟨_, rfl, ?_⟩
         refine hK.out _ _ trivial (fun hHeld => ?_)
         clear hK K
         have n0_ := am (Kd.R_drewN HO175.out nd)
         have n1_ := am (Kd.R_drewN HO184.out nd)
         have n2_ := am (Kd.R_drewN HO191.out nd)
         have n3_ := am (Kd.R_drewN HO194.out nd)
         have n4_ := am (Kd.R_drewN HO199.out nd)
         have n5_ := am (blk_drewN BK171.out nd)
         have n6_ := am (blk_drewN BK172.out nd)
         have n7_ := am (blk_drewN BK195.out nd)
         have n8_ := am (bd HB.out nd)
         clear HO175 HO184 HO191 HO194 HO199 BK171 BK172 BK195 HB
         have HO175 := n0_
         have HO184 := n1_
         have HO191 := n2_
         have HO194 := n3_
         have HO199 := n4_
         have BK171 := n5_
         have BK172 := n6_
         have BK195 := n7_
         have HB := n8_
         clear n0_ n1_ n2_ n3_ n4_ n5_ n6_ n7_ n8_
         generalize w53.drewN nd = w53 at HO175 HO184 HO191 HO194 HO199 BK171 BK172 BK195 HB hHeld ⊢
         refine norm_ (a' := ?_) ?_ ?_
         rotate_left
         ·show Act.put _ (some 55) _ = _
          simp only [Act.put, List.setIfInBounds_toArray, List.set_cons_zero, List.set_cons_succ, i64_w, i32_w]
          rfl
         refine pure_ (i := 13) (N := some 63) (v := ?_) (a' := ?_) #[true, true, true, true, true, true, true, true, true, true, true, true, true, true, false] rfl rfl (any_of HT_.out (by kernel_rfl)) (fun _ _ _ h => h) (Or.inl ⟨by rfl, ?_⟩) ?_ ?_
         rotate_left
         ·intro w'
          go_simp
          first | with_reducible rfl | (rw [show t196 = 0 from beq_iff_eq.mp (by assumption)]; rfl)
         rotate_left
         ·simp only [Act.put, List.setIfInBounds_toArray, List.set_cons_zero, List.set_cons_succ, i64_w, i32_w]
          rfl
         refine one_ (i := 14) (N := none) #[true, true, true, true, true, true, true, true, true, true, true, true, true, true, true] rfl rfl (one_of HT_.out (by kernel_rfl)) (by decide) (fun K hK => ?_)
         have hs56 : w53.cell? ⟨gb195, 0, none⟩ = some (.slice Ao49 t189.length co49) := (blk_cell BK195.out 0).trans rfl
         have hfs56 := blk_frozen BK195.out 0
         have hns56_0 := NB171_195.out
         have hns56_1 := NB172_195.out
         have hms56_0 := NB195_171.out
         have hms56_1 := NB195_172.out
         refine skip_ (w1 := ?_) (by rfl) rfl ?_ ?_
         rotate_left
         ·go_simp
          rfl
         refine hK.out _ _ trivial (fun hHeld => ?_)
         clear hK K
         refine done_ (done_of HT_.out (by kernel_rfl)) ?_
         have n0_ : Aside0 (Kd.R (Kd.int .u8) 5 (w53.setCell ⟨gb195, 0, none⟩ (.slice Ao54 y197.length co54)) w.heap.size (fun k_ => some k_ ≠ (.slice Ao39 y182.length co39 : Value).ownBlock ∧ some k_ ≠ (.slice Ao54 y197.length co54 : Value).ownBlock ∧ some k_ ≠ (.slice Ao49 t189.length co49 : Value).ownBlock ∧ some k_ ≠ (.slice Ao48 t192.length co48 : Value).ownBlock) v174 t173) := ⟨by exact zR <| Kd.R_mono (Kd.R_far (p := ⟨gb195, 0, none⟩) (Kd.R_types HO175.out BK195.out (by decide)) (fun _ hk => hk.2) (.slice Ao54 y197.length co54)) (fun _ hk => ⟨hk.1.1, ⟨hk.1.2.1, ⟨hk.1.2.2.1, hk.1.2.2.2⟩⟩⟩)⟩
         have n1_ : Aside0 (Kd.R (Kd.int .u8) 5 (w53.setCell ⟨gb195, 0, none⟩ (.slice Ao54 y197.length co54)) w.heap.size (fun k_ => some k_ ≠ (v174 : Value).ownBlock ∧ some k_ ≠ (.slice Ao54 y197.length co54 : Value).ownBlock ∧ some k_ ≠ (.slice Ao49 t189.length co49 : Value).ownBlock ∧ some k_ ≠ (.slice Ao48 t192.length co48 : Value).ownBlock) (.slice Ao39 y182.length co39) y182) := ⟨by exact zR <| Kd.R_mono (Kd.R_far (p := ⟨gb195, 0, none⟩) (Kd.R_types HO184.out BK195.out (by decide)) (fun _ hk => hk.2) (.slice Ao54 y197.length co54)) (fun _ hk => ⟨hk.1.1, ⟨hk.1.2.1, ⟨hk.1.2.2.1, hk.1.2.2.2⟩⟩⟩)⟩
         have n2_ : Aside0 (Kd.R (Kd.int .u8) 5 (w53.setCell ⟨gb195, 0, none⟩ (.slice Ao54 y197.length co54)) w.heap.size (fun k_ => some k_ ≠ (v174 : Value).ownBlock ∧ some k_ ≠ (.slice Ao39 y182.length co39 : Value).ownBlock ∧ some k_ ≠ (.slice Ao49 t189.length co49 : Value).ownBlock ∧ some k_ ≠ (.slice Ao48 t192.length co48 : Value).ownBlock) (.slice Ao54 y197.length co54) y197) := ⟨by exact zR <| Kd.R_mono (Kd.R_far (p := ⟨gb195, 0, none⟩) (Kd.R_types HO199.out BK195.out (by decide)) (fun _ hk => hk.2) (.slice Ao54 y197.length co54)) (fun _ hk => ⟨hk.1.1, ⟨hk.1.2.1, ⟨hk.1.2.2.1, hk.1.2.2.2⟩⟩⟩)⟩
         have n3_ : Aside0 (Kd.R (Kd.int .u8) 5 (w53.setCell ⟨gb195, 0, none⟩ (.slice Ao54 y197.length co54)) w.heap.size (fun k_ => some k_ ≠ (v174 : Value).ownBlock ∧ some k_ ≠ (.slice Ao39 y182.length co39 : Value).ownBlock ∧ some k_ ≠ (.slice Ao54 y197.length co54 : Value).ownBlock ∧ some k_ ≠ (.slice Ao48 t192.length co48 : Value).ownBlock) (.slice Ao49 t189.length co49) t189) := ⟨by exact zR <| Kd.R_mono (Kd.R_far (p := ⟨gb195, 0, none⟩) (Kd.R_types HO191.out BK195.out (by decide)) (fun _ hk => hk.2) (.slice Ao54 y197.length co54)) (fun _ hk => ⟨hk.1.1, ⟨hk.1.2.1, ⟨hk.1.2.2.1, hk.1.2.2.2⟩⟩⟩)⟩
         have n4_ : Aside0 (Kd.R (Kd.int .u8) 5 (w53.setCell ⟨gb195, 0, none⟩ (.slice Ao54 y197.length co54)) w.heap.size (fun k_ => some k_ ≠ (v174 : Value).ownBlock ∧ some k_ ≠ (.slice Ao39 y182.length co39 : Value).ownBlock ∧ some k_ ≠ (.slice Ao54 y197.length co54 : Value).ownBlock ∧ some k_ ≠ (.slice Ao49 t189.length co49 : Value).ownBlock) (.slice Ao48 t192.length co48) t192) := ⟨by exact zR <| Kd.R_mono (Kd.R_far (p := ⟨gb195, 0, none⟩) (Kd.R_types HO194.out BK195.out (by decide)) (fun _ hk => hk.2) (.slice Ao54 y197.length co54)) (fun _ hk => ⟨hk.1.1, ⟨hk.1.2.1, ⟨hk.1.2.2.1, hk.1.2.2.2⟩⟩⟩)⟩
         have n5_ : Aside0 ((w53.setCell ⟨gb195, 0, none⟩ (.slice Ao54 y197.length co54)).heap[gb171]? = some (.cells #[.slice A0_0 l0_0.length c0_0, .slice A0_1 l0_1.length c0_1] 24 (0, 0))) := ⟨by refine blk_far ?_ NB171_195.out _; exact zB <| BK171.out⟩
         have n6_ : Aside0 ((w53.setCell ⟨gb195, 0, none⟩ (.slice Ao54 y197.length co54)).heap[gb172]? = some (.cells #[.slice none 0 0, .slice none 0 0] 24 (0, 0))) := ⟨by refine blk_far ?_ NB172_195.out _; exact zB <| BK172.out⟩
         have n7_ : Aside0 ((w53.setCell ⟨gb195, 0, none⟩ (.slice Ao54 y197.length co54)).heap[gb195]? = some (.cells #[.slice Ao54 y197.length co54, .slice Ao48 t192.length co48] 54 (0, 0))) := ⟨by refine blk_put (cs := #[.slice Ao49 t189.length co49, .slice Ao48 t192.length co48]) ?_ 0 _ rfl; exact zB <| BK195.out⟩
         have n8_ : Aside0 (Below w.heap.size w (w53.setCell ⟨gb195, 0, none⟩ (.slice Ao54 y197.length co54))) := ⟨by repeat (first | (with_reducible first | exact HB.out | apply ba | apply bd | apply be | refine below_set ?_ GE171.out | refine below_set ?_ GE172.out | refine below_set ?_ GE195.out) | exact HB.out)⟩
         (try clear HO175)
         (try clear HO184)
         (try clear HO199)
         (try clear HO191)
         (try clear HO194)
         (try clear BK171)
         (try clear BK172)
         (try clear BK195)
         (try clear HB)
         generalize (w53.setCell ⟨gb195, 0, none⟩ (.slice Ao54 y197.length co54)) = w57 at n0_ n1_ n2_ n3_ n4_ n5_ n6_ n7_ n8_ ⊢
         have HO175 := n0_
         have HO184 := n1_
         have HO199 := n2_
         have HO191 := n3_
         have HO194 := n4_
         have BK171 := n5_
         have BK172 := n6_
         have BK195 := n7_
         have HB := n8_
         clear n0_ n1_ n2_ n3_ n4_ n5_ n6_ n7_ n8_
         have hnb58 := NB195_171.out
         have hnc58 := NB171_195.out
         have hnb59 := NB195_172.out
         have hnc59 := NB172_195.out
         have hcz60_0 : w57.cell? ⟨gb195, 0, none⟩ = some (.slice Ao54 y197.length co54) := (blk_cell BK195.out 0).trans rfl
         have hcz60_1 : w57.cell? ⟨gb195, 1, none⟩ = some (.slice Ao48 t192.length co48) := (blk_cell BK195.out 1).trans rfl
         have hfz60_0 := blk_frozen BK195.out 0
         have hfz60_1 := blk_frozen BK195.out 1
         have hcz61_0 : w57.cell? ⟨gb172, 0, none⟩ = some (.slice none 0 0) := (blk_cell BK172.out 0).trans rfl
         have hcz61_1 : w57.cell? ⟨gb172, 1, none⟩ = some (.slice none 0 0) := (blk_cell BK172.out 1).trans rfl
         have hfz61_0 := blk_frozen BK172.out 0
         have hfz61_1 := blk_frozen BK172.out 1
         go_wp2_with (first | ((with_reducible refine gate_store (t := 24) (p := 6) rfl ?_); refine store_event (t := 24) (p := 6) (v := ?vo_w62) (w1 := ((w57.setCell ⟨gb172, 0, none⟩ (.slice Ao54 y197.length co54)).setCell ⟨gb172, 1, none⟩ (.slice Ao48 t192.length co48))) ?hg ?ho ?hn ?hr ?_; (case ho => rfl); (case hg => rfl); (case hn => rfl); (case hr => first | (go_simp; done) | (go_simp; rfl)); intro w62 hw; have n0_ : Aside0 (Kd.R (Kd.int .u8) 5 w62 w.heap.size (fun k_ => some k_ ≠ (.slice Ao39 y182.length co39 : Value).ownBlock ∧ some k_ ≠ (.slice Ao54 y197.length co54 : Value).ownBlock ∧ some k_ ≠ (.slice Ao49 t189.length co49 : Value).ownBlock ∧ some k_ ≠ (.slice Ao48 t192.length co48 : Value).ownBlock) v174 t173) := ⟨(by rw [hw]; exact (by exact zR <| Kd.R_mono (Kd.R_far (p := ⟨gb172, 1, none⟩) (Kd.R_far (p := ⟨gb172, 0, none⟩) (Kd.R_types HO175.out BK172.out (by decide)) (fun _ hk => hk.2) (.slice Ao54 y197.length co54)) (fun _ hk => hk.2) (.slice Ao48 t192.length co48)) (fun _ hk => ⟨hk.1.1, ⟨hk.1.2.1, ⟨hk.1.2.2.1, hk.1.2.2.2⟩⟩⟩)))⟩; have n1_ : Aside0 (Kd.R (Kd.int .u8) 5 w62 w.heap.size (fun k_ => some k_ ≠ (v174 : Value).ownBlock ∧ some k_ ≠ (.slice Ao54 y197.length co54 : Value).ownBlock ∧ some k_ ≠ (.slice Ao49 t189.length co49 : Value).ownBlock ∧ some k_ ≠ (.slice Ao48 t192.length co48 : Value).ownBlock) (.slice Ao39 y182.length co39) y182) := ⟨(by rw [hw]; exact (by exact zR <| Kd.R_mono (Kd.R_far (p := ⟨gb172, 1, none⟩) (Kd.R_far (p := ⟨gb172, 0, none⟩) (Kd.R_types HO184.out BK172.out (by decide)) (fun _ hk => hk.2) (.slice Ao54 y197.length co54)) (fun _ hk => hk.2) (.slice Ao48 t192.length co48)) (fun _ hk => ⟨hk.1.1, ⟨hk.1.2.1, ⟨hk.1.2.2.1, hk.1.2.2.2⟩⟩⟩)))⟩; have n2_ : Aside0 (Kd.R (Kd.int .u8) 5 w62 w.heap.size (fun k_ => some k_ ≠ (v174 : Value).ownBlock ∧ some k_ ≠ (.slice Ao39 y182.length co39 : Value).ownBlock ∧ some k_ ≠ (.slice Ao49 t189.length co49 : Value).ownBlock ∧ some k_ ≠ (.slice Ao48 t192.length co48 : Value).ownBlock) (.slice Ao54 y197.length co54) y197) := ⟨(by rw [hw]; exact (by exact zR <| Kd.R_mono (Kd.R_far (p := ⟨gb172, 1, none⟩) (Kd.R_far (p := ⟨gb172, 0, none⟩) (Kd.R_types HO199.out BK172.out (by decide)) (fun _ hk => hk.2) (.slice Ao54 y197.length co54)) (fun _ hk => hk.2) (.slice Ao48 t192.length co48)) (fun _ hk => ⟨hk.1.1, ⟨hk.1.2.1, ⟨hk.1.2.2.1, hk.1.2.2.2⟩⟩⟩)))⟩; have n3_ : Aside0 (Kd.R (Kd.int .u8) 5 w62 w.heap.size (fun k_ => some k_ ≠ (v174 : Value).ownBlock ∧ some k_ ≠ (.slice Ao39 y182.length co39 : Value).ownBlock ∧ some k_ ≠ (.slice Ao54 y197.length co54 : Value).ownBlock ∧ some k_ ≠ (.slice Ao48 t192.length co48 : Value).ownBlock) (.slice Ao49 t189.length co49) t189) := ⟨(by rw [hw]; exact (by exact zR <| Kd.R_mono (Kd.R_far (p := ⟨gb172, 1, none⟩) (Kd.R_far (p := ⟨gb172, 0, none⟩) (Kd.R_types HO191.out BK172.out (by decide)) (fun _ hk => hk.2) (.slice Ao54 y197.length co54)) (fun _ hk => hk.2) (.slice Ao48 t192.length co48)) (fun _ hk => ⟨hk.1.1, ⟨hk.1.2.1, ⟨hk.1.2.2.1, hk.1.2.2.2⟩⟩⟩)))⟩; have n4_ : Aside0 (Kd.R (Kd.int .u8) 5 w62 w.heap.size (fun k_ => some k_ ≠ (v174 : Value).ownBlock ∧ some k_ ≠ (.slice Ao39 y182.length co39 : Value).ownBlock ∧ some k_ ≠ (.slice Ao54 y197.length co54 : Value).ownBlock ∧ some k_ ≠ (.slice Ao49 t189.length co49 : Value).ownBlock) (.slice Ao48 t192.length co48) t192) := ⟨(by rw [hw]; exact (by exact zR <| Kd.R_mono (Kd.R_far (p := ⟨gb172, 1, none⟩) (Kd.R_far (p := ⟨gb172, 0, none⟩) (Kd.R_types HO194.out BK172.out (by decide)) (fun _ hk => hk.2) (.slice Ao54 y197.length co54)) (fun _ hk => hk.2) (.slice Ao48 t192.length co48)) (fun _ hk => ⟨hk.1.1, ⟨hk.1.2.1, ⟨hk.1.2.2.1, hk.1.2.2.2⟩⟩⟩)))⟩; have n5_ : Aside0 (w62.heap[gb171]? = some (.cells #[.slice A0_0 l0_0.length c0_0, .slice A0_1 l0_1.length c0_1] 24 (0, 0))) := ⟨(by rw [hw]; exact (by refine blk_far ?_ NB171_172.out _; refine blk_far ?_ NB171_172.out _; exact zB <| BK171.out))⟩; have n6_ : Aside0 (w62.heap[gb172]? = some (.cells #[.slice Ao54 y197.length co54, .slice Ao48 t192.length co48] 24 (0, 0))) := ⟨(by rw [hw]; exact (by refine blk_put (cs := #[.slice Ao54 y197.length co54, .slice none 0 0]) ?_ 1 _ rfl; refine blk_put (cs := #[.slice none 0 0, .slice none 0 0]) ?_ 0 _ rfl; exact zB <| BK172.out))⟩; have n7_ : Aside0 (w62.heap[gb195]? = some (.cells #[.slice Ao54 y197.length co54, .slice Ao48 t192.length co48] 54 (0, 0))) := ⟨(by rw [hw]; exact (by refine blk_far ?_ NB195_172.out _; refine blk_far ?_ NB195_172.out _; exact zB <| BK195.out))⟩; have n8_ : Aside0 (Below w.heap.size w w62) := ⟨(by rw [hw]; exact (by repeat (first | (with_reducible first | exact HB.out | apply ba | apply bd | apply be | refine below_set ?_ GE171.out | refine below_set ?_ GE172.out | refine below_set ?_ GE195.out) | exact HB.out)))⟩; clear hw HO175 HO184 HO199 HO191 HO194 BK171 BK172 BK195 HB; have HO175 := n0_; have HO184 := n1_; have HO199 := n2_; have HO191 := n3_; have HO194 := n4_; have BK171 := n5_; have BK172 := n6_; have BK195 := n7_; have HB := n8_; clear n0_ n1_ n2_ n3_ n4_ n5_ n6_ n7_ n8_))
         refine bodyPost_ret (results_ct rfl _ _ gb172 24 #[.slice Ao54 y197.length co54, .slice Ao48 t192.length co48] (0, 0) _ rfl (zB BK172.out) Try.underlying24 rfl (by kernel_rfl)) rfl ?_
         exact ⟨_, _, by first | rfl | (simp [errW_none, errW_some] <;> rfl) | (simp only [← hji27, ← hji28]; first | rfl | (simp [errW_none, errW_some] <;> rfl)) | (simp [*, errW_none, errW_some] <;> rfl), by exact zR <| Kd.R_mono HO199.out (fun _ hk => hk.2.2.2), by exact zR <| Kd.R_mono HO194.out (fun _ hk => hk.2.2.1), by repeat (first | (with_reducible first | exact HB.out | apply ba | apply bd | apply be | refine below_set ?_ GE171.out | refine below_set ?_ GE172.out | refine below_set ?_ GE195.out) | exact HB.out)⟩
        ·rw [if_neg c31] at H
         have c31b0 : (t196 == 0) = false := beq_eq_false_iff_ne.mpr c31
         have c31b1 : (t196 != 0) = true := bne_iff_ne.mpr c31
         by_cases c63 : t196 = 1
         ·rw [if_pos c63] at H
          have c63b0 : (t196 == 1) = true := beq_iff_eq.mpr c63
          have c63b1 : (t196 != 1) = false := bne_eq_false_iff_eq.mpr c63
          clear c63
          simp only [Option.some.injEq, Prod.mk.injEq] at H
          obtain ⟨rfl, rfl, rfl⟩ := H
          obtain ⟨Ao54, co54, eo54⟩ := Kd.R_slice HO188.out
          (first | subst eo54 | (injection eo54 with f1_ f2_ f3_; have f4_ := f1_.symm; have f5_ := f3_.symm; clear f1_ f2_ f3_; subst f4_; subst f5_))
          have q55 : ((ji28) : Int) ≤ ((t185.length : Int) : Int) := of_decide_eq_true (by first | (with_reducible assumption) | assumption)
          obtain ⟨i087, hi55, _, hsz55, _⟩ := info_parts info5
          have hcut55 := cut_to (P := Try.prog) 22 5 .i64 Try.underlying22 hi55 Ao54 t185.length co54 (ji28) (of_decide_eq_true (by first | (with_reducible assumption) | assumption)) q55 (Kd.R_reads' HO188.out).2.1
          have hr55 := Kd.R_take (m := ((ji28) : Int).toNat) HO188.out (by omega)
          have hy55 : y197.length = ((ji28) : Int).toNat := (by rw [Ny197.out, List.length_take]; omega)
          rw [← Ny197.out] at hr55
          rw [← hy55] at hr55 hcut55
          clear hy55 hi55 hsz55 HO188
          have HO199 := Aside0.mk hr55
          clear hr55
          have hok_ : (Value.slice Ao54 y197.length co54).ownBlock = (Value.slice Ao54 t185.length co54).ownBlock := by cases Ao54 <;> rfl
          have h_ := HO175.out
          rw [← hok_] at h_
          clear HO175
          have HO175 := Aside0.mk h_
          clear h_
          have h_ := HO184.out
          rw [← hok_] at h_
          clear HO184
          have HO184 := Aside0.mk h_
          clear h_
          have h_ := HO191.out
          rw [← hok_] at h_
          clear HO191
          have HO191 := Aside0.mk h_
          clear h_
          have h_ := HO194.out
          rw [← hok_] at h_
          clear HO194
          have HO194 := Aside0.mk h_
          clear h_ hok_
          replace q55 := eq_true q55
          refine start_ (n := 15) (S := fun w' => True) (ds := []) #[false, false, false, false, false, false, false, false, false, false, false, false, false, false, false] (by kernel_rfl) rfl rfl trivial (fun hHeld => ?_); refine with_tabW stable_Torn.tab10 stable_Torn.bits10 (fun HT_ HW_ => ?_)
          generalize w52.drew = w53 at HO175 HO184 HO191 HO194 BK171 BK172 BK195 HB HO199 hHeld ⊢
          refine pure_ (i := 0) (N := some 50) (v := ?_) (a' := ?_) #[true, false, false, false, false, false, false, false, false, false, false, false, false, false, false] rfl rfl (any_of HT_.out (by kernel_rfl)) (fun _ _ _ h => h) (Or.inl ⟨by rfl, ?_⟩) ?_ ?_
          rotate_left
          ·intro w'
           go_simp
           first | with_reducible rfl | (rw [show t196 = 1 from beq_iff_eq.mp (by assumption)]; rfl)
          rotate_left
          ·simp only [Act.put, List.setIfInBounds_toArray, List.set_cons_zero, List.set_cons_succ, i64_w, i32_w]
           rfl
          refine pure_ (i := 1) (N := some 51) (v := ?_) (a' := ?_) #[true, true, false, false, false, false, false, false, false, false, false, false, false, false, false] rfl rfl (any_of HT_.out (by kernel_rfl)) (fun _ _ _ h => h) (Or.inl ⟨by rfl, ?_⟩) ?_ ?_
          rotate_left
          ·intro w'
           go_simp
           first | with_reducible rfl | (rw [show t196 = 1 from beq_iff_eq.mp (by assumption)]; rfl)
          rotate_left
          ·simp only [Act.put, List.setIfInBounds_toArray, List.set_cons_zero, List.set_cons_succ, i64_w, i32_w]
           rfl
          refine pure_ (i := 2) (N := some 52) (v := ?_) (a' := ?_) #[true, true, true, false, false, false, false, false, false, false, false, false, false, false, false] rfl rfl (any_of HT_.out (by kernel_rfl)) (fun _ _ _ h => h) (Or.inl ⟨by rfl, ?_⟩) ?_ ?_
          rotate_left
          ·intro w'
           go_simp
           first | with_reducible rfl | (rw [show t196 = 1 from beq_iff_eq.mp (by assumption)]; rfl)
          rotate_left
          ·simp only [Act.put, List.setIfInBounds_toArray, List.set_cons_zero, List.set_cons_succ, i64_w, i32_w]
           rfl
          refine pure_ (i := 3) (N := some 53) (v := ?_) (a' := ?_) #[true, true, true, true, false, false, false, false, false, false, false, false, false, false, false] rfl rfl (any_of HT_.out (by kernel_rfl)) (fun _ _ _ h => h) (Or.inl ⟨by rfl, ?_⟩) ?_ ?_
          rotate_left
          ·intro w'
           go_simp
           first | with_reducible rfl | (rw [show t196 = 1 from beq_iff_eq.mp (by assumption)]; rfl)
          rotate_left
          ·simp only [Act.put, List.setIfInBounds_toArray, List.set_cons_zero, List.set_cons_succ, i64_w, i32_w]
           rfl
          refine pure_ (i := 4) (N := some 54) (v := ?_) (a' := ?_) #[true, true, true, true, true, false, false, false, false, false, false, false, false, false, false] rfl rfl (any_of HT_.out (by kernel_rfl)) (fun _ _ _ h => h) (Or.inl ⟨by rfl, ?_⟩) ?_ ?_
          rotate_left
          ·intro w'
           go_simp
           first | with_reducible rfl | (rw [show t196 = 1 from beq_iff_eq.mp (by assumption)]; rfl)
          rotate_left
          ·simp only [Act.put, List.setIfInBounds_toArray, List.set_cons_zero, List.set_cons_succ, i64_w, i32_w]
           rfl
          refine pure_ (i := 6) (N := some 56) (v := ?_) (a' := ?_) #[true, true, true, true, true, false, true, false, false, false, false, false, false, false, false] rfl rfl (any_of HT_.out (by kernel_rfl)) (fun _ _ _ h => h) (Or.inl ⟨by rfl, ?_⟩) ?_ ?_
          rotate_left
          ·intro w'
           go_simp
           first | with_reducible rfl | (rw [show t196 = 1 from beq_iff_eq.mp (by assumption)]; rfl)
          rotate_left
          ·simp only [Act.put, List.setIfInBounds_toArray, List.set_cons_zero, List.set_cons_succ, i64_w, i32_w]
           rfl
          refine pure_ (i := 7) (N := some 57) (v := ?_) (a' := ?_) #[true, true, true, true, true, false, true, true, false, false, false, false, false, false, false] rfl rfl (any_of HT_.out (by kernel_rfl)) (fun _ _ _ h => h) (Or.inl ⟨by rfl, ?_⟩) ?_ ?_
          rotate_left
          ·intro w'
           go_simp
           first | with_reducible rfl | (rw [show t196 = 1 from beq_iff_eq.mp (by assumption)]; rfl)
          rotate_left
          ·simp only [Act.put, List.setIfInBounds_toArray, List.set_cons_zero, List.set_cons_succ, i64_w, i32_w]
           rfl
          refine pure_ (i := 8) (N := some 58) (v := ?_) (a' := ?_) #[true, true, true, true, true, false, true, true, true, false, false, false, false, false, false] rfl rfl (any_of HT_.out (by kernel_rfl)) (fun _ _ _ h => h) (Or.inl ⟨by rfl, ?_⟩) ?_ ?_
          rotate_left
          ·intro w'
           go_simp
           first | with_reducible rfl | (rw [show t196 = 1 from beq_iff_eq.mp (by assumption)]; rfl)
          rotate_left
          ·simp only [Act.put, List.setIfInBounds_toArray, List.set_cons_zero, List.set_cons_succ, i64_w, i32_w]
           rfl
          refine pure_ (i := 9) (N := some 59) (v := ?_) (a' := ?_) #[true, true, true, true, true, false, true, true, true, true, false, false, false, false, false] rfl rfl (any_of HT_.out (by kernel_rfl)) (fun _ _ _ h => h) (Or.inl ⟨by rfl, ?_⟩) ?_ ?_
          rotate_left
          ·intro w'
           go_simp
           first | with_reducible rfl | (rw [show t196 = 1 from beq_iff_eq.mp (by assumption)]; rfl)
          rotate_left
          ·simp only [Act.put, List.setIfInBounds_toArray, List.set_cons_zero, List.set_cons_succ, i64_w, i32_w]
           rfl
          refine pure_ (i := 10) (N := some 60) (v := ?_) (a' := ?_) #[true, true, true, true, true, false, true, true, true, true, true, false, false, false, false] rfl rfl (any_of HT_.out (by kernel_rfl)) (fun _ _ _ h => h) (Or.inl ⟨by rfl, ?_⟩) ?_ ?_
          rotate_left
          ·intro w'
           go_simp
           first | with_reducible rfl | (rw [show t196 = 1 from beq_iff_eq.mp (by assumption)]; rfl)
          rotate_left
          ·simp only [Act.put, List.setIfInBounds_toArray, List.set_cons_zero, List.set_cons_succ, i64_w, i32_w]
           rfl
          refine pure_ (i := 11) (N := some 61) (v := ?_) (a' := ?_) #[true, true, true, true, true, false, true, true, true, true, true, true, false, false, false] rfl rfl (any_of HT_.out (by kernel_rfl)) (fun _ _ _ h => h) (Or.inl ⟨by rfl, ?_⟩) ?_ ?_
          rotate_left
          ·intro w'
           go_simp
           first | with_reducible rfl | (rw [show t196 = 1 from beq_iff_eq.mp (by assumption)]; rfl)
          rotate_left
          ·simp only [Act.put, List.setIfInBounds_toArray, List.set_cons_zero, List.set_cons_succ, i64_w, i32_w]
           rfl
          refine pure_ (i := 12) (N := some 62) (v := ?_) (a' := ?_) #[true, true, true, true, true, false, true, true, true, true, true, true, true, false, false] rfl rfl (any_of HT_.out (by kernel_rfl)) (fun _ _ _ h => h) (Or.inl ⟨by rfl, ?_⟩) ?_ ?_
          rotate_left
          ·intro w'
           go_simp
           first | with_reducible rfl | (rw [show t196 = 1 from beq_iff_eq.mp (by assumption)]; rfl)
          rotate_left
          ·simp only [Act.put, List.setIfInBounds_toArray, List.set_cons_zero, List.set_cons_succ, i64_w, i32_w]
           rfl
          refine one_ (i := 5) (N := some 55) #[true, true, true, true, true, true, true, true, true, true, true, true, true, false, false] rfl rfl (one_of HT_.out (by kernel_rfl)) (by decide) (fun K hK => ?_)
          refine goes_ Try.func26 (by kernel_rfl) rfl #[.bool (t177 == 0)] (by rfl) rfl rfl (by (try simp only [List.map_toArray, List.map_cons, List.map_nil]); first | done | rfl | (simp only [List.length_drop, List.length_take]; rfl)) ?_
          with_reducible refine (stable_number.calls (t177 == 0) t196 _ A26.out).mono ?_
          rintro e w' ⟨rfl, ⟨nd, rfl⟩⟩
          refine ⟨_, rfl, ?_⟩
          refine hK.out _ _ trivial (fun hHeld => ?_)
          clear hK K
          have n0_ := am (Kd.R_drewN HO175.out nd)
          have n1_ := am (Kd.R_drewN HO184.out nd)
          have n2_ := am (Kd.R_drewN HO191.out nd)
          have n3_ := am (Kd.R_drewN HO194.out nd)
          have n4_ := am (Kd.R_drewN HO199.out nd)
          have n5_ := am (blk_drewN BK171.out nd)
          have n6_ := am (blk_drewN BK172.out nd)
          have n7_ := am (blk_drewN BK195.out nd)
          have n8_ := am (bd HB.out nd)
          clear HO175 HO184 HO191 HO194 HO199 BK171 BK172 BK195 HB
          have HO175 := n0_
          have HO184 := n1_
          have HO191 := n2_
          have HO194 := n3_
          have HO199 := n4_
          have BK171 := n5_
          have BK172 := n6_
          have BK195 := n7_
          have HB := n8_
          clear n0_ n1_ n2_ n3_ n4_ n5_ n6_ n7_ n8_
          generalize w53.drewN nd = w53 at HO175 HO184 HO191 HO194 HO199 BK171 BK172 BK195 HB hHeld ⊢
          refine norm_ (a' := ?_) ?_ ?_
          rotate_left
          ·show Act.put _ (some 55) _ = _
           simp only [Act.put, List.setIfInBounds_toArray, List.set_cons_zero, List.set_cons_succ, i64_w, i32_w]
           rfl
          refine pure_ (i := 13) (N := some 63) (v := ?_) (a' := ?_) #[true, true, true, true, true, true, true, true, true, true, true, true, true, true, false] rfl rfl (any_of HT_.out (by kernel_rfl)) (fun _ _ _ h => h) (Or.inl ⟨by rfl, ?_⟩) ?_ ?_
          rotate_left
          ·intro w'
           go_simp
           first | with_reducible rfl | (rw [show t196 = 1 from beq_iff_eq.mp (by assumption)]; rfl)
          rotate_left
          ·simp only [Act.put, List.setIfInBounds_toArray, List.set_cons_zero, List.set_cons_succ, i64_w, i32_w]
           rfl
          refine one_ (i := 14) (N := none) #[true, true, true, true, true, true, true, true, true, true, true, true, true, true, true] rfl rfl (one_of HT_.out (by kernel_rfl)) (by decide) (fun K hK => ?_)
          have hs56 : w53.cell? ⟨gb195, 1, none⟩ = some (.slice Ao48 t192.length co48) := (blk_cell BK195.out 1).trans rfl
          have hfs56 := blk_frozen BK195.out 1
          have hns56_0 := NB171_195.out
          have hns56_1 := NB172_195.out
          have hms56_0 := NB195_171.out
          have hms56_1 := NB195_172.out
          refine skip_ (w1 := ?_) (by rfl) rfl ?_ ?_
          rotate_left
          ·go_simp
           rfl
          refine hK.out _ _ trivial (fun hHeld => ?_)
          clear hK K
          refine done_ (done_of HT_.out (by kernel_rfl)) ?_
          have n0_ : Aside0 (Kd.R (Kd.int .u8) 5 (w53.setCell ⟨gb195, 1, none⟩ (.slice Ao54 y197.length co54)) w.heap.size (fun k_ => some k_ ≠ (.slice Ao39 y182.length co39 : Value).ownBlock ∧ some k_ ≠ (.slice Ao54 y197.length co54 : Value).ownBlock ∧ some k_ ≠ (.slice Ao49 t189.length co49 : Value).ownBlock ∧ some k_ ≠ (.slice Ao48 t192.length co48 : Value).ownBlock) v174 t173) := ⟨by exact zR <| Kd.R_mono (Kd.R_far (p := ⟨gb195, 1, none⟩) (Kd.R_types HO175.out BK195.out (by decide)) (fun _ hk => hk.2) (.slice Ao54 y197.length co54)) (fun _ hk => ⟨hk.1.1, ⟨hk.1.2.1, ⟨hk.1.2.2.1, hk.1.2.2.2⟩⟩⟩)⟩
          have n1_ : Aside0 (Kd.R (Kd.int .u8) 5 (w53.setCell ⟨gb195, 1, none⟩ (.slice Ao54 y197.length co54)) w.heap.size (fun k_ => some k_ ≠ (v174 : Value).ownBlock ∧ some k_ ≠ (.slice Ao54 y197.length co54 : Value).ownBlock ∧ some k_ ≠ (.slice Ao49 t189.length co49 : Value).ownBlock ∧ some k_ ≠ (.slice Ao48 t192.length co48 : Value).ownBlock) (.slice Ao39 y182.length co39) y182) := ⟨by exact zR <| Kd.R_mono (Kd.R_far (p := ⟨gb195, 1, none⟩) (Kd.R_types HO184.out BK195.out (by decide)) (fun _ hk => hk.2) (.slice Ao54 y197.length co54)) (fun _ hk => ⟨hk.1.1, ⟨hk.1.2.1, ⟨hk.1.2.2.1, hk.1.2.2.2⟩⟩⟩)⟩
          have n2_ : Aside0 (Kd.R (Kd.int .u8) 5 (w53.setCell ⟨gb195, 1, none⟩ (.slice Ao54 y197.length co54)) w.heap.size (fun k_ => some k_ ≠ (v174 : Value).ownBlock ∧ some k_ ≠ (.slice Ao39 y182.length co39 : Value).ownBlock ∧ some k_ ≠ (.slice Ao49 t189.length co49 : Value).ownBlock ∧ some k_ ≠ (.slice Ao48 t192.length co48 : Value).ownBlock) (.slice Ao54 y197.length co54) y197) := ⟨by exact zR <| Kd.R_mono (Kd.R_far (p := ⟨gb195, 1, none⟩) (Kd.R_types HO199.out BK195.out (by decide)) (fun _ hk => hk.2) (.slice Ao54 y197.length co54)) (fun _ hk => ⟨hk.1.1, ⟨hk.1.2.1, ⟨hk.1.2.2.1, hk.1.2.2.2⟩⟩⟩)⟩
          have n3_ : Aside0 (Kd.R (Kd.int .u8) 5 (w53.setCell ⟨gb195, 1, none⟩ (.slice Ao54 y197.length co54)) w.heap.size (fun k_ => some k_ ≠ (v174 : Value).ownBlock ∧ some k_ ≠ (.slice Ao39 y182.length co39 : Value).ownBlock ∧ some k_ ≠ (.slice Ao54 y197.length co54 : Value).ownBlock ∧ some k_ ≠ (.slice Ao48 t192.length co48 : Value).ownBlock) (.slice Ao49 t189.length co49) t189) := ⟨by exact zR <| Kd.R_mono (Kd.R_far (p := ⟨gb195, 1, none⟩) (Kd.R_types HO191.out BK195.out (by decide)) (fun _ hk => hk.2) (.slice Ao54 y197.length co54)) (fun _ hk => ⟨hk.1.1, ⟨hk.1.2.1, ⟨hk.1.2.2.1, hk.1.2.2.2⟩⟩⟩)⟩
          have n4_ : Aside0 (Kd.R (Kd.int .u8) 5 (w53.setCell ⟨gb195, 1, none⟩ (.slice Ao54 y197.length co54)) w.heap.size (fun k_ => some k_ ≠ (v174 : Value).ownBlock ∧ some k_ ≠ (.slice Ao39 y182.length co39 : Value).ownBlock ∧ some k_ ≠ (.slice Ao54 y197.length co54 : Value).ownBlock ∧ some k_ ≠ (.slice Ao49 t189.length co49 : Value).ownBlock) (.slice Ao48 t192.length co48) t192) := ⟨by exact zR <| Kd.R_mono (Kd.R_far (p := ⟨gb195, 1, none⟩) (Kd.R_types HO194.out BK195.out (by decide)) (fun _ hk => hk.2) (.slice Ao54 y197.length co54)) (fun _ hk => ⟨hk.1.1, ⟨hk.1.2.1, ⟨hk.1.2.2.1, hk.1.2.2.2⟩⟩⟩)⟩
          have n5_ : Aside0 ((w53.setCell ⟨gb195, 1, none⟩ (.slice Ao54 y197.length co54)).heap[gb171]? = some (.cells #[.slice A0_0 l0_0.length c0_0, .slice A0_1 l0_1.length c0_1] 24 (0, 0))) := ⟨by refine blk_far ?_ NB171_195.out _; exact zB <| BK171.out⟩
          have n6_ : Aside0 ((w53.setCell ⟨gb195, 1, none⟩ (.slice Ao54 y197.length co54)).heap[gb172]? = some (.cells #[.slice none 0 0, .slice none 0 0] 24 (0, 0))) := ⟨by refine blk_far ?_ NB172_195.out _; exact zB <| BK172.out⟩
          have n7_ : Aside0 ((w53.setCell ⟨gb195, 1, none⟩ (.slice Ao54 y197.length co54)).heap[gb195]? = some (.cells #[.slice Ao49 t189.length co49, .slice Ao54 y197.length co54] 54 (0, 0))) := ⟨by refine blk_put (cs := #[.slice Ao49 t189.length co49, .slice Ao48 t192.length co48]) ?_ 1 _ rfl; exact zB <| BK195.out⟩
          have n8_ : Aside0 (Below w.heap.size w (w53.setCell ⟨gb195, 1, none⟩ (.slice Ao54 y197.length co54))) := ⟨by repeat (first | (with_reducible first | exact HB.out | apply ba | apply bd | apply be | refine below_set ?_ GE171.out | refine below_set ?_ GE172.out | refine below_set ?_ GE195.out) | exact HB.out)⟩
          (try clear HO175)
          (try clear HO184)
          (try clear HO199)
          (try clear HO191)
          (try clear HO194)
          (try clear BK171)
          (try clear BK172)
          (try clear BK195)
          (try clear HB)
          generalize (w53.setCell ⟨gb195, 1, none⟩ (.slice Ao54 y197.length co54)) = w57 at n0_ n1_ n2_ n3_ n4_ n5_ n6_ n7_ n8_ ⊢
          have HO175 := n0_
          have HO184 := n1_
          have HO199 := n2_
          have HO191 := n3_
          have HO194 := n4_
          have BK171 := n5_
          have BK172 := n6_
          have BK195 := n7_
          have HB := n8_
          clear n0_ n1_ n2_ n3_ n4_ n5_ n6_ n7_ n8_
          have hnb58 := NB195_171.out
          have hnc58 := NB171_195.out
          have hnb59 := NB195_172.out
          have hnc59 := NB172_195.out
          have hcz60_0 : w57.cell? ⟨gb195, 0, none⟩ = some (.slice Ao49 t189.length co49) := (blk_cell BK195.out 0).trans rfl
          have hcz60_1 : w57.cell? ⟨gb195, 1, none⟩ = some (.slice Ao54 y197.length co54) := (blk_cell BK195.out 1).trans rfl
          have hfz60_0 := blk_frozen BK195.out 0
          have hfz60_1 := blk_frozen BK195.out 1
          have hcz61_0 : w57.cell? ⟨gb172, 0, none⟩ = some (.slice none 0 0) := (blk_cell BK172.out 0).trans rfl
          have hcz61_1 : w57.cell? ⟨gb172, 1, none⟩ = some (.slice none 0 0) := (blk_cell BK172.out 1).trans rfl
          have hfz61_0 := blk_frozen BK172.out 0
          have hfz61_1 := blk_frozen BK172.out 1
          go_wp2_with (first | ((with_reducible refine gate_store (t := 24) (p := 6) rfl ?_); refine store_event (t := 24) (p := 6) (v := ?vo_w94) (w1 := ((w57.setCell ⟨gb172, 0, none⟩ (.slice Ao49 t189.length co49)).setCell ⟨gb172, 1, none⟩ (.slice Ao54 y197.length co54))) ?hg ?ho ?hn ?hr ?_; (case ho => rfl); (case hg => rfl); (case hn => rfl); (case hr => first | (go_simp; done) | (go_simp; rfl)); intro w62 hw; have n0_ : Aside0 (Kd.R (Kd.int .u8) 5 w62 w.heap.size (fun k_ => some k_ ≠ (.slice Ao39 y182.length co39 : Value).ownBlock ∧ some k_ ≠ (.slice Ao54 y197.length co54 : Value).ownBlock ∧ some k_ ≠ (.slice Ao49 t189.length co49 : Value).ownBlock ∧ some k_ ≠ (.slice Ao48 t192.length co48 : Value).ownBlock) v174 t173) := ⟨(by rw [hw]; exact (by exact zR <| Kd.R_mono (Kd.R_far (p := ⟨gb172, 1, none⟩) (Kd.R_far (p := ⟨gb172, 0, none⟩) (Kd.R_types HO175.out BK172.out (by decide)) (fun _ hk => hk.2) (.slice Ao49 t189.length co49)) (fun _ hk => hk.2) (.slice Ao54 y197.length co54)) (fun _ hk => ⟨hk.1.1, ⟨hk.1.2.1, ⟨hk.1.2.2.1, hk.1.2.2.2⟩⟩⟩)))⟩; have n1_ : Aside0 (Kd.R (Kd.int .u8) 5 w62 w.heap.size (fun k_ => some k_ ≠ (v174 : Value).ownBlock ∧ some k_ ≠ (.slice Ao54 y197.length co54 : Value).ownBlock ∧ some k_ ≠ (.slice Ao49 t189.length co49 : Value).ownBlock ∧ some k_ ≠ (.slice Ao48 t192.length co48 : Value).ownBlock) (.slice Ao39 y182.length co39) y182) := ⟨(by rw [hw]; exact (by exact zR <| Kd.R_mono (Kd.R_far (p := ⟨gb172, 1, none⟩) (Kd.R_far (p := ⟨gb172, 0, none⟩) (Kd.R_types HO184.out BK172.out (by decide)) (fun _ hk => hk.2) (.slice Ao49 t189.length co49)) (fun _ hk => hk.2) (.slice Ao54 y197.length co54)) (fun _ hk => ⟨hk.1.1, ⟨hk.1.2.1, ⟨hk.1.2.2.1, hk.1.2.2.2⟩⟩⟩)))⟩; have n2_ : Aside0 (Kd.R (Kd.int .u8) 5 w62 w.heap.size (fun k_ => some k_ ≠ (v174 : Value).ownBlock ∧ some k_ ≠ (.slice Ao39 y182.length co39 : Value).ownBlock ∧ some k_ ≠ (.slice Ao49 t189.length co49 : Value).ownBlock ∧ some k_ ≠ (.slice Ao48 t192.length co48 : Value).ownBlock) (.slice Ao54 y197.length co54) y197) := ⟨(by rw [hw]; exact (by exact zR <| Kd.R_mono (Kd.R_far (p := ⟨gb172, 1, none⟩) (Kd.R_far (p := ⟨gb172, 0, none⟩) (Kd.R_types HO199.out BK172.out (by decide)) (fun _ hk => hk.2) (.slice Ao49 t189.length co49)) (fun _ hk => hk.2) (.slice Ao54 y197.length co54)) (fun _ hk => ⟨hk.1.1, ⟨hk.1.2.1, ⟨hk.1.2.2.1, hk.1.2.2.2⟩⟩⟩)))⟩; have n3_ : Aside0 (Kd.R (Kd.int .u8) 5 w62 w.heap.size (fun k_ => some k_ ≠ (v174 : Value).ownBlock ∧ some k_ ≠ (.slice Ao39 y182.length co39 : Value).ownBlock ∧ some k_ ≠ (.slice Ao54 y197.length co54 : Value).ownBlock ∧ some k_ ≠ (.slice Ao48 t192.length co48 : Value).ownBlock) (.slice Ao49 t189.length co49) t189) := ⟨(by rw [hw]; exact (by exact zR <| Kd.R_mono (Kd.R_far (p := ⟨gb172, 1, none⟩) (Kd.R_far (p := ⟨gb172, 0, none⟩) (Kd.R_types HO191.out BK172.out (by decide)) (fun _ hk => hk.2) (.slice Ao49 t189.length co49)) (fun _ hk => hk.2) (.slice Ao54 y197.length co54)) (fun _ hk => ⟨hk.1.1, ⟨hk.1.2.1, ⟨hk.1.2.2.1, hk.1.2.2.2⟩⟩⟩)))⟩; have n4_ : Aside0 (Kd.R (Kd.int .u8) 5 w62 w.heap.size (fun k_ => some k_ ≠ (v174 : Value).ownBlock ∧ some k_ ≠ (.slice Ao39 y182.length co39 : Value).ownBlock ∧ some k_ ≠ (.slice Ao54 y197.length co54 : Value).ownBlock ∧ some k_ ≠ (.slice Ao49 t189.length co49 : Value).ownBlock) (.slice Ao48 t192.length co48) t192) := ⟨(by rw [hw]; exact (by exact zR <| Kd.R_mono (Kd.R_far (p := ⟨gb172, 1, none⟩) (Kd.R_far (p := ⟨gb172, 0, none⟩) (Kd.R_types HO194.out BK172.out (by decide)) (fun _ hk => hk.2) (.slice Ao49 t189.length co49)) (fun _ hk => hk.2) (.slice Ao54 y197.length co54)) (fun _ hk => ⟨hk.1.1, ⟨hk.1.2.1, ⟨hk.1.2.2.1, hk.1.2.2.2⟩⟩⟩)))⟩; have n5_ : Aside0 (w62.heap[gb171]? = some (.cells #[.slice A0_0 l0_0.length c0_0, .slice A0_1 l0_1.length c0_1] 24 (0, 0))) := ⟨(by rw [hw]; exact (by refine blk_far ?_ NB171_172.out _; refine blk_far ?_ NB171_172.out _; exact zB <| BK171.out))⟩; have n6_ : Aside0 (w62.heap[gb172]? = some (.cells #[.slice Ao49 t189.length co49, .slice Ao54 y197.length co54] 24 (0, 0))) := ⟨(by rw [hw]; exact (by refine blk_put (cs := #[.slice Ao49 t189.length co49, .slice none 0 0]) ?_ 1 _ rfl; refine blk_put (cs := #[.slice none 0 0, .slice none 0 0]) ?_ 0 _ rfl; exact zB <| BK172.out))⟩; have n7_ : Aside0 (w62.heap[gb195]? = some (.cells #[.slice Ao49 t189.length co49, .slice Ao54 y197.length co54] 54 (0, 0))) := ⟨(by rw [hw]; exact (by refine blk_far ?_ NB195_172.out _; refine blk_far ?_ NB195_172.out _; exact zB <| BK195.out))⟩; have n8_ : Aside0 (Below w.heap.size w w62) := ⟨(by rw [hw]; exact (by repeat (first | (with_reducible first | exact HB.out | apply ba | apply bd | apply be | refine below_set ?_ GE171.out | refine below_set ?_ GE172.out | refine below_set ?_ GE195.out) | exact HB.out)))⟩; clear hw HO175 HO184 HO199 HO191 HO194 BK171 BK172 BK195 HB; have HO175 := n0_; have HO184 := n1_; have HO199 := n2_; have HO191 := n3_; have HO194 := n4_; have BK171 := n5_; have BK172 := n6_; have BK195 := n7_; have HB := n8_; clear n0_ n1_ n2_ n3_ n4_ n5_ n6_ n7_ n8_))
          refine bodyPost_ret (results_ct rfl _ _ gb172 24 #[.slice Ao49 t189.length co49, .slice Ao54 y197.length co54] (0, 0) _ rfl (zB BK172.out) Try.underlying24 rfl (by kernel_rfl)) rfl ?_
          exact ⟨_, _, by first | rfl | (simp [errW_none, errW_some] <;> rfl) | (simp only [← hji27, ← hji28]; first | rfl | (simp [errW_none, errW_some] <;> rfl)) | (simp [*, errW_none, errW_some] <;> rfl), by exact zR <| Kd.R_mono HO191.out (fun _ hk => hk.2.2.1), by exact zR <| Kd.R_mono HO199.out (fun _ hk => hk.2.2.1), by repeat (first | (with_reducible first | exact HB.out | apply ba | apply bd | apply be | refine below_set ?_ GE171.out | refine below_set ?_ GE172.out | refine below_set ?_ GE195.out) | exact HB.out)⟩
         ·rw [if_neg c63] at H
          exact absurd H (by simp)
       ·rw [if_neg c30] at H
        exact absurd H (by simp)
      ·rw [if_neg c29] at H
       exact absurd H (by simp)
     ·replace c25 := Bool.eq_false_iff.mpr c25
      subst c25
      have H1 : ((stable_number.f false).bind fun t200 => (if 0 ≤ (mn (mx a2 0) (t185.length : Int)) then (if (mn (mx a2 0) (t185.length : Int)) ≤ (t185.length : Int) then ((some (t185.take ((mn (mx a2 0) (t185.length : Int)) : Int).toNat : List Int)).bind fun y201 => (if t200 = 0 then (some (y201, t192, 0)) else (if t200 = 1 then (some (t189, y201, 0)) else (none)))) else (none)) else (none))) = some (r1, r2, r3) := by rw [if_neg (show ¬ (false = true) by decide)] at H; exact H
      clear H
      have H := H1
      clear H1
      replace H := Option.bind_eq_some_iff.mp H
      obtain ⟨t200, A950, H⟩ := H
      replace H : (if 0 ≤ (mn (mx a2 0) (t185.length : Int)) then (if (mn (mx a2 0) (t185.length : Int)) ≤ (t185.length : Int) then ((some (t185.take ((mn (mx a2 0) (t185.length : Int)) : Int).toNat : List Int)).bind fun y201 => (if t200 = 0 then (some (y201, t192, 0)) else (if t200 = 1 then (some (t189, y201, 0)) else (none)))) else (none)) else (none)) = some (r1, r2, r3) := H
      have A95 := Aside0.mk A950
      clear A950
      obtain ⟨ji96, hji96⟩ : ∃ j_ : Int, (mx a2 0) = j_ := ⟨_, rfl⟩
      replace H : (if 0 ≤ (mn (ji96) (t185.length : Int)) then (if (mn (ji96) (t185.length : Int)) ≤ (t185.length : Int) then ((some (t185.take ((mn (ji96) (t185.length : Int)) : Int).toNat : List Int)).bind fun y201 => (if t200 = 0 then (some (y201, t192, 0)) else (if t200 = 1 then (some (t189, y201, 0)) else (none)))) else (none)) else (none)) = some (r1, r2, r3) := by first | (rw [hji96] at H; exact H) | (simp only [hji96] at H ⊢; exact H)
      (try rw [hji96] at A10)
      (try rw [hji96] at A19)
      (try rw [hji96] at A21)
      (try rw [hji96] at A23)
      (try rw [hji96] at A24)
      (try rw [hji96] at A95)
      (try (have hji96l : 0 ≤ ji96 := by (rw [← hji96]; unfold mx; (repeat' split) <;> omega)))
      (try (have hji96m : 0 ≤ ji96 := by omega))
      have hji96_ : (if a2 < 0 then 0 else a2) = ji96 := hji96
      obtain ⟨ji97, hji97⟩ : ∃ j_ : Int, (mn (ji96) (t185.length : Int)) = j_ := ⟨_, rfl⟩
      replace H : (if 0 ≤ (ji97) then (if (ji97) ≤ (t185.length : Int) then ((some (t185.take ((ji97) : Int).toNat : List Int)).bind fun y201 => (if t200 = 0 then (some (y201, t192, 0)) else (if t200 = 1 then (some (t189, y201, 0)) else (none)))) else (none)) else (none)) = some (r1, r2, r3) := by first | (rw [hji97] at H; exact H) | (simp only [hji97] at H ⊢; exact H)
      (try rw [hji97] at A10)
      (try rw [hji97] at A19)
      (try rw [hji97] at A21)
      (try rw [hji97] at A23)
      (try rw [hji97] at A24)
      (try rw [hji97] at A95)
      have hji97_ : (if (t185.length : Int) < (ji96) then (t185.length : Int) else (ji96)) = ji97 := hji97
      by_cases c98 : 0 ≤ (ji97)
      ·rw [if_pos c98] at H
       have c98b0 := eq_true c98
       have c98b1 : decide (0 ≤ (ji97)) = true := decide_eq_true c98
       clear c98
       by_cases c99 : (ji97) ≤ (t185.length : Int)
       ·rw [if_pos c99] at H
        have c99b0 := eq_true c99
        have c99b1 : decide ((ji97) ≤ (t185.length : Int)) = true := decide_eq_true c99
        clear c99
        obtain ⟨y201, hy201⟩ : ∃ y_ : List Int, y_ = (t185.take ((ji97) : Int).toNat) := ⟨_, rfl⟩
        replace H : (if t200 = 0 then (some (y201, t192, 0)) else (if t200 = 1 then (some (t189, y201, 0)) else (none))) = some (r1, r2, r3) := by first | (rw [hy201]; with_reducible exact H) | (have H2_ := (Option.bind_some _ _).symm.trans H; rw [hy201]; with_reducible exact H2_) | (have H2_ := (Option.bind_some _ _).symm.trans H; with_reducible exact H2_) | with_reducible exact H | (rw [hy201]; exact H) | exact H
        have Ny201 := Aside0.mk hy201
        clear hy201
        by_cases c100 : t200 = 0
        ·rw [if_pos c100] at H
         have c100b0 : (t200 == 0) = true := beq_iff_eq.mpr c100
         have c100b1 : (t200 != 0) = false := bne_eq_false_iff_eq.mpr c100
         clear c100
         simp only [Option.some.injEq, Prod.mk.injEq] at H
         obtain ⟨rfl, rfl, rfl⟩ := H
         obtain ⟨Ao54, co54, eo54⟩ := Kd.R_slice HO188.out
         (first | subst eo54 | (injection eo54 with f1_ f2_ f3_; have f4_ := f1_.symm; have f5_ := f3_.symm; clear f1_ f2_ f3_; subst f4_; subst f5_))
         have q55 : ((ji97) : Int) ≤ ((t185.length : Int) : Int) := of_decide_eq_true (by first | (with_reducible assumption) | assumption)
         obtain ⟨i0124, hi55, _, hsz55, _⟩ := info_parts info5
         have hcut55 := cut_to (P := Try.prog) 22 5 .i64 Try.underlying22 hi55 Ao54 t185.length co54 (ji97) (of_decide_eq_true (by first | (with_reducible assumption) | assumption)) q55 (Kd.R_reads' HO188.out).2.1
         have hr55 := Kd.R_take (m := ((ji97) : Int).toNat) HO188.out (by omega)
         have hy55 : y201.length = ((ji97) : Int).toNat := (by rw [Ny201.out, List.length_take]; omega)
         rw [← Ny201.out] at hr55
         rw [← hy55] at hr55 hcut55
         clear hy55 hi55 hsz55 HO188
         have HO203 := Aside0.mk hr55
         clear hr55
         have hok_ : (Value.slice Ao54 y201.length co54).ownBlock = (Value.slice Ao54 t185.length co54).ownBlock := by cases Ao54 <;> rfl
         have h_ := HO175.out
         rw [← hok_] at h_
         clear HO175
         have HO175 := Aside0.mk h_
         clear h_
         have h_ := HO184.out
         rw [← hok_] at h_
         clear HO184
         have HO184 := Aside0.mk h_
         clear h_
         have h_ := HO191.out
         rw [← hok_] at h_
         clear HO191
         have HO191 := Aside0.mk h_
         clear h_
         have h_ := HO194.out
         rw [← hok_] at h_
         clear HO194
         have HO194 := Aside0.mk h_
         clear h_ hok_
         replace q55 := eq_true q55
         refine start_ (n := 15) (S := fun w' => True) (ds := []) #[false, false, false, false, false, false, false, false, false, false, false, false, false, false, false] (by kernel_rfl) rfl rfl trivial (fun hHeld => ?_); refine with_tabW stable_Torn.tab10 stable_Torn.bits10 (fun HT_ HW_ => ?_)
         generalize w52.drew = w53 at HO175 HO184 HO191 HO194 BK171 BK172 BK195 HB HO203 hHeld ⊢
         refine pure_ (i := 0) (N := some 50) (v := ?_) (a' := ?_) #[true, false, false, false, false, false, false, false, false, false, false, false, false, false, false] rfl rfl (any_of HT_.out (by kernel_rfl)) (fun _ _ _ h => h) (Or.inl ⟨by rfl, ?_⟩) ?_ ?_
         rotate_left
         ·intro w'
          go_simp
          first | with_reducible rfl | (rw [show t200 = 0 from beq_iff_eq.mp (by assumption)]; rfl)
         rotate_left
         ·simp only [Act.put, List.setIfInBounds_toArray, List.set_cons_zero, List.set_cons_succ, i64_w, i32_w]
          rfl
         refine pure_ (i := 1) (N := some 51) (v := ?_) (a' := ?_) #[true, true, false, false, false, false, false, false, false, false, false, false, false, false, false] rfl rfl (any_of HT_.out (by kernel_rfl)) (fun _ _ _ h => h) (Or.inl ⟨by rfl, ?_⟩) ?_ ?_
         rotate_left
         ·intro w'
          go_simp
          first | with_reducible rfl | (rw [show t200 = 0 from beq_iff_eq.mp (by assumption)]; rfl)
         rotate_left
         ·simp only [Act.put, List.setIfInBounds_toArray, List.set_cons_zero, List.set_cons_succ, i64_w, i32_w]
          rfl
         refine pure_ (i := 2) (N := some 52) (v := undef) (a' := ?_) #[true, true, true, false, false, false, false, false, false, false, false, false, false, false, false] rfl rfl (any_of HT_.out (by kernel_rfl)) (fun _ _ _ h => h) (Or.inr ⟨by rfl, rfl⟩) ?_ ?_
         rotate_left
         ·simp only [Act.put, List.setIfInBounds_toArray, List.set_cons_zero, List.set_cons_succ, i64_w, i32_w]
          rfl
         refine pure_ (i := 3) (N := some 53) (v := undef) (a' := ?_) #[true, true, true, true, false, false, false, false, false, false, false, false, false, false, false] rfl rfl (any_of HT_.out (by kernel_rfl)) (fun _ _ _ h => h) (Or.inr ⟨by rfl, rfl⟩) ?_ ?_
         rotate_left
         ·simp only [Act.put, List.setIfInBounds_toArray, List.set_cons_zero, List.set_cons_succ, i64_w, i32_w]
          rfl
         refine pure_ (i := 4) (N := some 54) (v := ?_) (a' := ?_) #[true, true, true, true, true, false, false, false, false, false, false, false, false, false, false] rfl rfl (any_of HT_.out (by kernel_rfl)) (fun _ _ _ h => h) (Or.inl ⟨by rfl, ?_⟩) ?_ ?_
         rotate_left
         ·intro w'
          go_simp
          first | with_reducible rfl | (rw [show t200 = 0 from beq_iff_eq.mp (by assumption)]; rfl)
         rotate_left
         ·simp only [Act.put, List.setIfInBounds_toArray, List.set_cons_zero, List.set_cons_succ, i64_w, i32_w]
          rfl
         refine pure_ (i := 6) (N := some 56) (v := ?_) (a' := ?_) #[true, true, true, true, true, false, true, false, false, false, false, false, false, false, false] rfl rfl (any_of HT_.out (by kernel_rfl)) (fun _ _ _ h => h) (Or.inl ⟨by rfl, ?_⟩) ?_ ?_
         rotate_left
         ·intro w'
          go_simp
          first | with_reducible rfl | (rw [show t200 = 0 from beq_iff_eq.mp (by assumption)]; rfl)
         rotate_left
         ·simp only [Act.put, List.setIfInBounds_toArray, List.set_cons_zero, List.set_cons_succ, i64_w, i32_w]
          rfl
         refine pure_ (i := 7) (N := some 57) (v := ?_) (a' := ?_) #[true, true, true, true, true, false, true, true, false, false, false, false, false, false, false] rfl rfl (any_of HT_.out (by kernel_rfl)) (fun _ _ _ h => h) (Or.inl ⟨by rfl, ?_⟩) ?_ ?_
         rotate_left
         ·intro w'
          go_simp
          first | with_reducible rfl | (rw [show t200 = 0 from beq_iff_eq.mp (by assumption)]; rfl)
         rotate_left
         ·simp only [Act.put, List.setIfInBounds_toArray, List.set_cons_zero, List.set_cons_succ, i64_w, i32_w]
          rfl
         refine pure_ (i := 8) (N := some 58) (v := ?_) (a' := ?_) #[true, true, true, true, true, false, true, true, true, false, false, false, false, false, false] rfl rfl (any_of HT_.out (by kernel_rfl)) (fun _ _ _ h => h) (Or.inl ⟨by rfl, ?_⟩) ?_ ?_
         rotate_left
         ·intro w'
          go_simp
          first | with_reducible rfl | (rw [show t200 = 0 from beq_iff_eq.mp (by assumption)]; rfl)
         rotate_left
         ·simp only [Act.put, List.setIfInBounds_toArray, List.set_cons_zero, List.set_cons_succ, i64_w, i32_w]
          rfl
         refine pure_ (i := 9) (N := some 59) (v := ?_) (a' := ?_) #[true, true, true, true, true, false, true, true, true, true, false, false, false, false, false] rfl rfl (any_of HT_.out (by kernel_rfl)) (fun _ _ _ h => h) (Or.inl ⟨by rfl, ?_⟩) ?_ ?_
         rotate_left
         ·intro w'
          go_simp
          first | with_reducible rfl | (rw [show t200 = 0 from beq_iff_eq.mp (by assumption)]; rfl)
         rotate_left
         ·simp only [Act.put, List.setIfInBounds_toArray, List.set_cons_zero, List.set_cons_succ, i64_w, i32_w]
          rfl
         refine pure_ (i := 10) (N := some 60) (v := ?_) (a' := ?_) #[true, true, true, true, true, false, true, true, true, true, true, false, false, false, false] rfl rfl (any_of HT_.out (by kernel_rfl)) (fun _ _ _ h => h) (Or.inl ⟨by rfl, ?_⟩) ?_ ?_
         rotate_left
         ·intro w'
          go_simp
          first | with_reducible rfl | (rw [show t200 = 0 from beq_iff_eq.mp (by assumption)]; rfl)
         rotate_left
         ·simp only [Act.put, List.setIfInBounds_toArray, List.set_cons_zero, List.set_cons_succ, i64_w, i32_w]
          rfl
         refine pure_ (i := 11) (N := some 61) (v := ?_) (a' := ?_) #[true, true, true, true, true, false, true, true, true, true, true, true, false, false, false] rfl rfl (any_of HT_.out (by kernel_rfl)) (fun _ _ _ h => h) (Or.inl ⟨by rfl, ?_⟩) ?_ ?_
         rotate_left
         ·intro w'
          go_simp
          first | with_reducible rfl | (rw [show t200 = 0 from beq_iff_eq.mp (by assumption)]; rfl)
         rotate_left
         ·simp only [Act.put, List.setIfInBounds_toArray, List.set_cons_zero, List.set_cons_succ, i64_w, i32_w]
          rfl
         refine pure_ (i := 12) (N := some 62) (v := ?_) (a' := ?_) #[true, true, true, true, true, false, true, true, true, true, true, true, true, false, false] rfl rfl (any_of HT_.out (by kernel_rfl)) (fun _ _ _ h => h) (Or.inl ⟨by rfl, ?_⟩) ?_ ?_
         rotate_left
         ·intro w'
          go_simp
          first | with_reducible rfl | (rw [show t200 = 0 from beq_iff_eq.mp (by assumption)]; rfl)
         rotate_left
         ·simp only [Act.put, List.setIfInBounds_toArray, List.set_cons_zero, List.set_cons_succ, i64_w, i32_w]
          rfl
         refine one_ (i := 5) (N := some 55) #[true, true, true, true, true, true, true, true, true, true, true, true, true, false, false] rfl rfl (one_of HT_.out (by kernel_rfl)) (by decide) (fun K hK => ?_)
         refine goes_ Try.func26 (by kernel_rfl) rfl #[.bool false] (by rfl) rfl rfl (by (try simp only [List.map_toArray, List.map_cons, List.map_nil]); first | done | rfl | (simp only [List.length_drop, List.length_take]; rfl)) ?_
         with_reducible refine (stable_number.calls false t200 _ A95.out).mono ?_
         rintro e w' ⟨rfl, ⟨nd, rfl⟩⟩
         refine ⟨_, rfl, ?_⟩
         refine hK.out _ _ trivial (fun hHeld => ?_)
         clear hK K
         have n0_ := am (Kd.R_drewN HO175.out nd)
         have n1_ := am (Kd.R_drewN HO184.out nd)
         have n2_ := am (Kd.R_drewN HO191.out nd)
         have n3_ := am (Kd.R_drewN HO194.out nd)
         have n4_ := am (Kd.R_drewN HO203.out nd)
         have n5_ := am (blk_drewN BK171.out nd)
         have n6_ := am (blk_drewN BK172.out nd)
         have n7_ := am (blk_drewN BK195.out nd)
         have n8_ := am (bd HB.out nd)
         clear HO175 HO184 HO191 HO194 HO203 BK171 BK172 BK195 HB
         have HO175 := n0_
         have HO184 := n1_
         have HO191 := n2_
         have HO194 := n3_
         have HO203 := n4_
         have BK171 := n5_
         have BK172 := n6_
         have BK195 := n7_
         have HB := n8_
         clear n0_ n1_ n2_ n3_ n4_ n5_ n6_ n7_ n8_
         generalize w53.drewN nd = w53 at HO175 HO184 HO191 HO194 HO203 BK171 BK172 BK195 HB hHeld ⊢
         refine norm_ (a' := ?_) ?_ ?_
         rotate_left
         ·show Act.put _ (some 55) _ = _
          simp only [Act.put, List.setIfInBounds_toArray, List.set_cons_zero, List.set_cons_succ, i64_w, i32_w]
          rfl
         refine pure_ (i := 13) (N := some 63) (v := ?_) (a' := ?_) #[true, true, true, true, true, true, true, true, true, true, true, true, true, true, false] rfl rfl (any_of HT_.out (by kernel_rfl)) (fun _ _ _ h => h) (Or.inl ⟨by rfl, ?_⟩) ?_ ?_
         rotate_left
         ·intro w'
          go_simp
          first | with_reducible rfl | (rw [show t200 = 0 from beq_iff_eq.mp (by assumption)]; rfl)
         rotate_left
         ·simp only [Act.put, List.setIfInBounds_toArray, List.set_cons_zero, List.set_cons_succ, i64_w, i32_w]
          rfl
         refine one_ (i := 14) (N := none) #[true, true, true, true, true, true, true, true, true, true, true, true, true, true, true] rfl rfl (one_of HT_.out (by kernel_rfl)) (by decide) (fun K hK => ?_)
         have hs56 : w53.cell? ⟨gb195, 0, none⟩ = some (.slice Ao49 t189.length co49) := (blk_cell BK195.out 0).trans rfl
         have hfs56 := blk_frozen BK195.out 0
         have hns56_0 := NB171_195.out
         have hns56_1 := NB172_195.out
         have hms56_0 := NB195_171.out
         have hms56_1 := NB195_172.out
         refine skip_ (w1 := ?_) (by rfl) rfl ?_ ?_
         rotate_left
         ·go_simp
          rfl
         refine hK.out _ _ trivial (fun hHeld => ?_)
         clear hK K
         refine done_ (done_of HT_.out (by kernel_rfl)) ?_
         have n0_ : Aside0 (Kd.R (Kd.int .u8) 5 (w53.setCell ⟨gb195, 0, none⟩ (.slice Ao54 y201.length co54)) w.heap.size (fun k_ => some k_ ≠ (.slice Ao39 y182.length co39 : Value).ownBlock ∧ some k_ ≠ (.slice Ao54 y201.length co54 : Value).ownBlock ∧ some k_ ≠ (.slice Ao49 t189.length co49 : Value).ownBlock ∧ some k_ ≠ (.slice Ao48 t192.length co48 : Value).ownBlock) v174 t173) := ⟨by exact zR <| Kd.R_mono (Kd.R_far (p := ⟨gb195, 0, none⟩) (Kd.R_types HO175.out BK195.out (by decide)) (fun _ hk => hk.2) (.slice Ao54 y201.length co54)) (fun _ hk => ⟨hk.1.1, ⟨hk.1.2.1, ⟨hk.1.2.2.1, hk.1.2.2.2⟩⟩⟩)⟩
         have n1_ : Aside0 (Kd.R (Kd.int .u8) 5 (w53.setCell ⟨gb195, 0, none⟩ (.slice Ao54 y201.length co54)) w.heap.size (fun k_ => some k_ ≠ (v174 : Value).ownBlock ∧ some k_ ≠ (.slice Ao54 y201.length co54 : Value).ownBlock ∧ some k_ ≠ (.slice Ao49 t189.length co49 : Value).ownBlock ∧ some k_ ≠ (.slice Ao48 t192.length co48 : Value).ownBlock) (.slice Ao39 y182.length co39) y182) := ⟨by exact zR <| Kd.R_mono (Kd.R_far (p := ⟨gb195, 0, none⟩) (Kd.R_types HO184.out BK195.out (by decide)) (fun _ hk => hk.2) (.slice Ao54 y201.length co54)) (fun _ hk => ⟨hk.1.1, ⟨hk.1.2.1, ⟨hk.1.2.2.1, hk.1.2.2.2⟩⟩⟩)⟩
         have n2_ : Aside0 (Kd.R (Kd.int .u8) 5 (w53.setCell ⟨gb195, 0, none⟩ (.slice Ao54 y201.length co54)) w.heap.size (fun k_ => some k_ ≠ (v174 : Value).ownBlock ∧ some k_ ≠ (.slice Ao39 y182.length co39 : Value).ownBlock ∧ some k_ ≠ (.slice Ao49 t189.length co49 : Value).ownBlock ∧ some k_ ≠ (.slice Ao48 t192.length co48 : Value).ownBlock) (.slice Ao54 y201.length co54) y201) := ⟨by exact zR <| Kd.R_mono (Kd.R_far (p := ⟨gb195, 0, none⟩) (Kd.R_types HO203.out BK195.out (by decide)) (fun _ hk => hk.2) (.slice Ao54 y201.length co54)) (fun _ hk => ⟨hk.1.1, ⟨hk.1.2.1, ⟨hk.1.2.2.1, hk.1.2.2.2⟩⟩⟩)⟩
         have n3_ : Aside0 (Kd.R (Kd.int .u8) 5 (w53.setCell ⟨gb195, 0, none⟩ (.slice Ao54 y201.length co54)) w.heap.size (fun k_ => some k_ ≠ (v174 : Value).ownBlock ∧ some k_ ≠ (.slice Ao39 y182.length co39 : Value).ownBlock ∧ some k_ ≠ (.slice Ao54 y201.length co54 : Value).ownBlock ∧ some k_ ≠ (.slice Ao48 t192.length co48 : Value).ownBlock) (.slice Ao49 t189.length co49) t189) := ⟨by exact zR <| Kd.R_mono (Kd.R_far (p := ⟨gb195, 0, none⟩) (Kd.R_types HO191.out BK195.out (by decide)) (fun _ hk => hk.2) (.slice Ao54 y201.length co54)) (fun _ hk => ⟨hk.1.1, ⟨hk.1.2.1, ⟨hk.1.2.2.1, hk.1.2.2.2⟩⟩⟩)⟩
         have n4_ : Aside0 (Kd.R (Kd.int .u8) 5 (w53.setCell ⟨gb195, 0, none⟩ (.slice Ao54 y201.length co54)) w.heap.size (fun k_ => some k_ ≠ (v174 : Value).ownBlock ∧ some k_ ≠ (.slice Ao39 y182.length co39 : Value).ownBlock ∧ some k_ ≠ (.slice Ao54 y201.length co54 : Value).ownBlock ∧ some k_ ≠ (.slice Ao49 t189.length co49 : Value).ownBlock) (.slice Ao48 t192.length co48) t192) := ⟨by exact zR <| Kd.R_mono (Kd.R_far (p := ⟨gb195, 0, none⟩) (Kd.R_types HO194.out BK195.out (by decide)) (fun _ hk => hk.2) (.slice Ao54 y201.length co54)) (fun _ hk => ⟨hk.1.1, ⟨hk.1.2.1, ⟨hk.1.2.2.1, hk.1.2.2.2⟩⟩⟩)⟩
         have n5_ : Aside0 ((w53.setCell ⟨gb195, 0, none⟩ (.slice Ao54 y201.length co54)).heap[gb171]? = some (.cells #[.slice A0_0 l0_0.length c0_0, .slice A0_1 l0_1.length c0_1] 24 (0, 0))) := ⟨by refine blk_far ?_ NB171_195.out _; exact zB <| BK171.out⟩
         have n6_ : Aside0 ((w53.setCell ⟨gb195, 0, none⟩ (.slice Ao54 y201.length co54)).heap[gb172]? = some (.cells #[.slice none 0 0, .slice none 0 0] 24 (0, 0))) := ⟨by refine blk_far ?_ NB172_195.out _; exact zB <| BK172.out⟩
         have n7_ : Aside0 ((w53.setCell ⟨gb195, 0, none⟩ (.slice Ao54 y201.length co54)).heap[gb195]? = some (.cells #[.slice Ao54 y201.length co54, .slice Ao48 t192.length co48] 54 (0, 0))) := ⟨by refine blk_put (cs := #[.slice Ao49 t189.length co49, .slice Ao48 t192.length co48]) ?_ 0 _ rfl; exact zB <| BK195.out⟩
         have n8_ : Aside0 (Below w.heap.size w (w53.setCell ⟨gb195, 0, none⟩ (.slice Ao54 y201.length co54))) := ⟨by repeat (first | (with_reducible first | exact HB.out | apply ba | apply bd | apply be | refine below_set ?_ GE171.out | refine below_set ?_ GE172.out | refine below_set ?_ GE195.out) | exact HB.out)⟩
         (try clear HO175)
         (try clear HO184)
         (try clear HO203)
         (try clear HO191)
         (try clear HO194)
         (try clear BK171)
         (try clear BK172)
         (try clear BK195)
         (try clear HB)
         generalize (w53.setCell ⟨gb195, 0, none⟩ (.slice Ao54 y201.length co54)) = w57 at n0_ n1_ n2_ n3_ n4_ n5_ n6_ n7_ n8_ ⊢
         have HO175 := n0_
         have HO184 := n1_
         have HO203 := n2_
         have HO191 := n3_
         have HO194 := n4_
         have BK171 := n5_
         have BK172 := n6_
         have BK195 := n7_
         have HB := n8_
         clear n0_ n1_ n2_ n3_ n4_ n5_ n6_ n7_ n8_
         have hnb58 := NB195_171.out
         have hnc58 := NB171_195.out
         have hnb59 := NB195_172.out
         have hnc59 := NB172_195.out
         have hcz60_0 : w57.cell? ⟨gb195, 0, none⟩ = some (.slice Ao54 y201.length co54) := (blk_cell BK195.out 0).trans rfl
         have hcz60_1 : w57.cell? ⟨gb195, 1, none⟩ = some (.slice Ao48 t192.length co48) := (blk_cell BK195.out 1).trans rfl
         have hfz60_0 := blk_frozen BK195.out 0
         have hfz60_1 := blk_frozen BK195.out 1
         have hcz61_0 : w57.cell? ⟨gb172, 0, none⟩ = some (.slice none 0 0) := (blk_cell BK172.out 0).trans rfl
         have hcz61_1 : w57.cell? ⟨gb172, 1, none⟩ = some (.slice none 0 0) := (blk_cell BK172.out 1).trans rfl
         have hfz61_0 := blk_frozen BK172.out 0
         have hfz61_1 := blk_frozen BK172.out 1
         go_wp2_with (first | ((with_reducible refine gate_store (t := 24) (p := 6) rfl ?_); refine store_event (t := 24) (p := 6) (v := ?vo_w131) (w1 := ((w57.setCell ⟨gb172, 0, none⟩ (.slice Ao54 y201.length co54)).setCell ⟨gb172, 1, none⟩ (.slice Ao48 t192.length co48))) ?hg ?ho ?hn ?hr ?_; (case ho => rfl); (case hg => rfl); (case hn => rfl); (case hr => first | (go_simp; done) | (go_simp; rfl)); intro w62 hw; have n0_ : Aside0 (Kd.R (Kd.int .u8) 5 w62 w.heap.size (fun k_ => some k_ ≠ (.slice Ao39 y182.length co39 : Value).ownBlock ∧ some k_ ≠ (.slice Ao54 y201.length co54 : Value).ownBlock ∧ some k_ ≠ (.slice Ao49 t189.length co49 : Value).ownBlock ∧ some k_ ≠ (.slice Ao48 t192.length co48 : Value).ownBlock) v174 t173) := ⟨(by rw [hw]; exact (by exact zR <| Kd.R_mono (Kd.R_far (p := ⟨gb172, 1, none⟩) (Kd.R_far (p := ⟨gb172, 0, none⟩) (Kd.R_types HO175.out BK172.out (by decide)) (fun _ hk => hk.2) (.slice Ao54 y201.length co54)) (fun _ hk => hk.2) (.slice Ao48 t192.length co48)) (fun _ hk => ⟨hk.1.1, ⟨hk.1.2.1, ⟨hk.1.2.2.1, hk.1.2.2.2⟩⟩⟩)))⟩; have n1_ : Aside0 (Kd.R (Kd.int .u8) 5 w62 w.heap.size (fun k_ => some k_ ≠ (v174 : Value).ownBlock ∧ some k_ ≠ (.slice Ao54 y201.length co54 : Value).ownBlock ∧ some k_ ≠ (.slice Ao49 t189.length co49 : Value).ownBlock ∧ some k_ ≠ (.slice Ao48 t192.length co48 : Value).ownBlock) (.slice Ao39 y182.length co39) y182) := ⟨(by rw [hw]; exact (by exact zR <| Kd.R_mono (Kd.R_far (p := ⟨gb172, 1, none⟩) (Kd.R_far (p := ⟨gb172, 0, none⟩) (Kd.R_types HO184.out BK172.out (by decide)) (fun _ hk => hk.2) (.slice Ao54 y201.length co54)) (fun _ hk => hk.2) (.slice Ao48 t192.length co48)) (fun _ hk => ⟨hk.1.1, ⟨hk.1.2.1, ⟨hk.1.2.2.1, hk.1.2.2.2⟩⟩⟩)))⟩; have n2_ : Aside0 (Kd.R (Kd.int .u8) 5 w62 w.heap.size (fun k_ => some k_ ≠ (v174 : Value).ownBlock ∧ some k_ ≠ (.slice Ao39 y182.length co39 : Value).ownBlock ∧ some k_ ≠ (.slice Ao49 t189.length co49 : Value).ownBlock ∧ some k_ ≠ (.slice Ao48 t192.length co48 : Value).ownBlock) (.slice Ao54 y201.length co54) y201) := ⟨(by rw [hw]; exact (by exact zR <| Kd.R_mono (Kd.R_far (p := ⟨gb172, 1, none⟩) (Kd.R_far (p := ⟨gb172, 0, none⟩) (Kd.R_types HO203.out BK172.out (by decide)) (fun _ hk => hk.2) (.slice Ao54 y201.length co54)) (fun _ hk => hk.2) (.slice Ao48 t192.length co48)) (fun _ hk => ⟨hk.1.1, ⟨hk.1.2.1, ⟨hk.1.2.2.1, hk.1.2.2.2⟩⟩⟩)))⟩; have n3_ : Aside0 (Kd.R (Kd.int .u8) 5 w62 w.heap.size (fun k_ => some k_ ≠ (v174 : Value).ownBlock ∧ some k_ ≠ (.slice Ao39 y182.length co39 : Value).ownBlock ∧ some k_ ≠ (.slice Ao54 y201.length co54 : Value).ownBlock ∧ some k_ ≠ (.slice Ao48 t192.length co48 : Value).ownBlock) (.slice Ao49 t189.length co49) t189) := ⟨(by rw [hw]; exact (by exact zR <| Kd.R_mono (Kd.R_far (p := ⟨gb172, 1, none⟩) (Kd.R_far (p := ⟨gb172, 0, none⟩) (Kd.R_types HO191.out BK172.out (by decide)) (fun _ hk => hk.2) (.slice Ao54 y201.length co54)) (fun _ hk => hk.2) (.slice Ao48 t192.length co48)) (fun _ hk => ⟨hk.1.1, ⟨hk.1.2.1, ⟨hk.1.2.2.1, hk.1.2.2.2⟩⟩⟩)))⟩; have n4_ : Aside0 (Kd.R (Kd.int .u8) 5 w62 w.heap.size (fun k_ => some k_ ≠ (v174 : Value).ownBlock ∧ some k_ ≠ (.slice Ao39 y182.length co39 : Value).ownBlock ∧ some k_ ≠ (.slice Ao54 y201.length co54 : Value).ownBlock ∧ some k_ ≠ (.slice Ao49 t189.length co49 : Value).ownBlock) (.slice Ao48 t192.length co48) t192) := ⟨(by rw [hw]; exact (by exact zR <| Kd.R_mono (Kd.R_far (p := ⟨gb172, 1, none⟩) (Kd.R_far (p := ⟨gb172, 0, none⟩) (Kd.R_types HO194.out BK172.out (by decide)) (fun _ hk => hk.2) (.slice Ao54 y201.length co54)) (fun _ hk => hk.2) (.slice Ao48 t192.length co48)) (fun _ hk => ⟨hk.1.1, ⟨hk.1.2.1, ⟨hk.1.2.2.1, hk.1.2.2.2⟩⟩⟩)))⟩; have n5_ : Aside0 (w62.heap[gb171]? = some (.cells #[.slice A0_0 l0_0.length c0_0, .slice A0_1 l0_1.length c0_1] 24 (0, 0))) := ⟨(by rw [hw]; exact (by refine blk_far ?_ NB171_172.out _; refine blk_far ?_ NB171_172.out _; exact zB <| BK171.out))⟩; have n6_ : Aside0 (w62.heap[gb172]? = some (.cells #[.slice Ao54 y201.length co54, .slice Ao48 t192.length co48] 24 (0, 0))) := ⟨(by rw [hw]; exact (by refine blk_put (cs := #[.slice Ao54 y201.length co54, .slice none 0 0]) ?_ 1 _ rfl; refine blk_put (cs := #[.slice none 0 0, .slice none 0 0]) ?_ 0 _ rfl; exact zB <| BK172.out))⟩; have n7_ : Aside0 (w62.heap[gb195]? = some (.cells #[.slice Ao54 y201.length co54, .slice Ao48 t192.length co48] 54 (0, 0))) := ⟨(by rw [hw]; exact (by refine blk_far ?_ NB195_172.out _; refine blk_far ?_ NB195_172.out _; exact zB <| BK195.out))⟩; have n8_ : Aside0 (Below w.heap.size w w62) := ⟨(by rw [hw]; exact (by repeat (first | (with_reducible first | exact HB.out | apply ba | apply bd | apply be | refine below_set ?_ GE171.out | refine below_set ?_ GE172.out | refine below_set ?_ GE195.out) | exact HB.out)))⟩; clear hw HO175 HO184 HO203 HO191 HO194 BK171 BK172 BK195 HB; have HO175 := n0_; have HO184 := n1_; have HO203 := n2_; have HO191 := n3_; have HO194 := n4_; have BK171 := n5_; have BK172 := n6_; have BK195 := n7_; have HB := n8_; clear n0_ n1_ n2_ n3_ n4_ n5_ n6_ n7_ n8_))
         refine bodyPost_ret (results_ct rfl _ _ gb172 24 #[.slice Ao54 y201.length co54, .slice Ao48 t192.length co48] (0, 0) _ rfl (zB BK172.out) Try.underlying24 rfl (by kernel_rfl)) rfl ?_
         exact ⟨_, _, by first | rfl | (simp [errW_none, errW_some] <;> rfl) | (simp only [← hji96, ← hji97]; first | rfl | (simp [errW_none, errW_some] <;> rfl)) | (simp [*, errW_none, errW_some] <;> rfl), by exact zR <| Kd.R_mono HO203.out (fun _ hk => hk.2.2.2), by exact zR <| Kd.R_mono HO194.out (fun _ hk => hk.2.2.1), by repeat (first | (with_reducible first | exact HB.out | apply ba | apply bd | apply be | refine below_set ?_ GE171.out | refine below_set ?_ GE172.out | refine below_set ?_ GE195.out) | exact HB.out)⟩
        ·rw [if_neg c100] at H
         exact absurd (show t200 = 0 from (Option.some.inj (A95.out.symm.trans rfl))) c100
       ·rw [if_neg c99] at H
        exact absurd H (by simp)
      ·rw [if_neg c98] at H
       exact absurd H (by simp)
    ·rw [if_neg c22] at H
     have c22b0 : (t186 == 0) = false := beq_eq_false_iff_ne.mpr c22
     have c22b1 : (t186 != 0) = true := bne_iff_ne.mpr c22
     simp only [Option.some.injEq, Prod.mk.injEq] at H
     obtain ⟨rfl, rfl, rfl⟩ := H
     go_enter Try.func12, Try.ntmps12
     go_wp2_with (first | ((with_reducible refine gate_dst (N := 3) rfl ?_); refine box_event ?hg (N := 3) ?hd (cs := #[.slice A0_0 l0_0.length c0_0, .slice A0_1 l0_1.length c0_1]) (t := 24) ?hr ?_; (case hd => rfl); (case hg => rfl); (case hr => first | (go_simp; done) | (go_simp; rfl)); intro gb171 hg w164 hbox hb; have n0_ := am (below_step (zL HB.out) hb); have n1_ := am (hbox); have n2_ := am (zS hg HB.out); have n3_ := am (zS hg HB.out); clear HB; have HB := n0_; have BK171 := n1_; have GW171 := n2_; have GE171 := n3_; clear n0_ n1_ n2_ n3_; clear hb hbox hg) | ((with_reducible refine gate_dst (N := 6) rfl ?_); refine box_event ?hg (N := 6) ?hd (cs := #[.slice none 0 0, .slice none 0 0]) (t := 24) ?hr ?_; (case hd => rfl); (case hg => rfl); (case hr => first | (go_simp; done) | (go_simp; rfl)); intro gb172 hg w165 hbox hb; have n0_ := am (blk_below (zB BK171.out) hb); have n1_ := am (below_step (zL HB.out) hb); have n2_ := am (hbox); have n3_ := am (zS hg HB.out); have n4_ := am (zS hg HB.out); have n5_ := am (zN hg BK171.out); have n6_ := am (zM hg BK171.out); clear BK171 HB; have BK171 := n0_; have HB := n1_; have BK172 := n2_; have GW172 := n3_; have GE172 := n4_; have NB171_172 := n5_; have NB172_171 := n6_; clear n0_ n1_ n2_ n3_ n4_ n5_ n6_; clear hb hbox hg; have hnb166 := NB171_172.out; have hnc166 := NB172_171.out; have hcz167_0 : w165.cell? ⟨gb171, 0, none⟩ = some (.slice A0_0 l0_0.length c0_0) := (blk_cell BK171.out 0).trans rfl; have hcz167_1 : w165.cell? ⟨gb171, 1, none⟩ = some (.slice A0_1 l0_1.length c0_1) := (blk_cell BK171.out 1).trans rfl; have hfz167_0 := blk_frozen BK171.out 0; have hfz167_1 := blk_frozen BK171.out 1) | ((with_reducible refine gate_callee (f := 21) rfl ?_); refine goesL_ (some 21) rfl rfl Try.func21 (by kernel_rfl) rfl #[.agg #[.slice A0_0 l0_0.length c0_0, .slice A0_1 l0_1.length c0_1]] rfl (by (try simp only [List.map_toArray, List.map_cons, List.map_nil]); first | done | rfl | (simp only [List.length_drop, List.length_take]; rfl)) ?_; (with_reducible refine (stable_present.calls k _ _ l0_0 _ _ l0_1 t173 t176 t177 t178 _ ?side1 ?side2 ?side3 ?side4 A10.out).mono ?_); (case side1 => exact zC (Kd.C_below HR0_0.out HB.out)); (case side2 => exact HC0_0.out); (case side3 => exact zC (Kd.C_below HR0_1.out HB.out)); (case side4 => exact HC0_1.out); rintro e w168 ⟨v174, rfl, ho0, hb⟩; refine ⟨_, rfl, ?_⟩; have n0_ := am (Kd.R_lower ho0 (below_size (zL HB.out))); have n1_ := am (blk_below (zB BK171.out) hb); have n2_ := am (blk_below (zB BK172.out) hb); have n3_ := am (below_step (zL HB.out) hb); clear BK171 BK172 HB; have HO175 := n0_; have BK171 := n1_; have BK172 := n2_; have HB := n3_; clear n0_ n1_ n2_ n3_; (try clear hb); (try clear hb2); (try clear hk); (try clear hi); (try clear ho0)) | ((with_reducible refine gate_callee (f := 24) rfl ?_); refine goesL_ (some 33) rfl rfl Try.func24 (by kernel_rfl) rfl #[.slice none 0 0, .int .u64 (IntKind.u64.wrap (wrap64 (t176 + 1)))] rfl (by (try simp only [List.map_toArray, List.map_cons, List.map_nil]); first | done | rfl | (simp only [List.length_drop, List.length_take]; rfl)) ?_; (refine (codec_PutUint.calls k _ _ ([] : List Int) (IntKind.u64.wrap (wrap64 (t176 + 1))) t179 _ ?side1 ?side2 A19.out).mono ?_); (case side1 => exact Kd.C_nil _ _); (case side2 => exact Nat.le_refl _); rintro e w169 ⟨v180, rfl, ho0, hb⟩; refine ⟨_, rfl, ?_⟩; have n0_ := am (Kd.R_elder' (zR HO175.out) (Kd.R_base ho0) hb); have n1_ := am (Kd.R_lower (Kd.R_new' ho0 (Kd.R_lt (zR HO175.out))) (below_size (zL HB.out))); have n2_ := am (blk_below (zB BK171.out) hb); have n3_ := am (blk_below (zB BK172.out) hb); have n4_ := am (below_step (zL HB.out) hb); clear HO175 BK171 BK172 HB; have HO175 := n0_; have HO181 := n1_; have BK171 := n2_; have BK172 := n3_; have HB := n4_; clear n0_ n1_ n2_ n3_ n4_; (try clear hb); (try clear hb2); (try clear hk); (try clear hi); (try clear ho0)) | ((with_reducible refine gate_builtin (b := .append) (xs := #[.tmp 33, .tmp 34]) rfl ?_); at_builtin; refine Kd.R_append_rows (Kd.int .u8) (w0 := w) w.heap.size rfl (.tmp 33) (.tmp 34) 22 5 (.int .u8 0) 1 rfl Try.underlying22 info5 rfl (by decide) (by omega) v180 t179 l1 _ _ _ (fun k_ => some k_ ≠ (v174 : Value).ownBlock) (fun _ => False) rfl rfl ?aO ?aR (fun _ _ h => h) (fun _ h => h.elim) ?aF ?aB ?aS ?aL ?_; (case aR => exact zC (Kd.C_below HR1.out HB.out)); (case aB => exact (by repeat (first | (with_reducible first | exact HB.out | apply ba | apply bd | apply be | refine below_set ?_ GE171.out | refine below_set ?_ GE172.out) | exact HB.out))); (case aF => exact (fun k_ hk => Kd.fresh' (Kd.R_lt (zR HO175.out)) k_ hk)); (case aO => exact (by exact zR <| Kd.R_mono HO181.out (fun _ hk => hk.2))); (case aS => exact (below_size (zL HB.out))); (case aL => have := LMc20.out; omega); intro v183 w170 ho hb hg hat; rw [← Ny182.out] at ho; have n0_ := am (blk_grown (g := gb171) (o := .cells #[.slice A0_0 l0_0.length c0_0, .slice A0_1 l0_1.length c0_1] 24 (0, 0)) (zB BK171.out) hg (Kd.R_ne HO181.out BK171.out (by decide))); have n1_ := am (blk_grown (g := gb172) (o := .cells #[.slice none 0 0, .slice none 0 0] 24 (0, 0)) (zB BK172.out) hg (Kd.R_ne HO181.out BK172.out (by decide))); have n2_ := am (Kd.R_after (ok := (fun _ => True)) (zR HO175.out) hg hat); have n3_ := am (hb); have n4_ := am (ho); clear BK171 BK172 HO175 HB HO181; have BK171 := n0_; have BK172 := n1_; have HO175 := n2_; have HB := n3_; have HO184 := n4_; clear n0_ n1_ n2_ n3_ n4_; clear ho hb hg hat; obtain ⟨Ao171, co171, eo171⟩ := Kd.R_slice HO184.out; subst eo171) | ((with_reducible refine gate_callee (f := 23) rfl ?_); refine goesL_ (some 36) rfl rfl Try.func23 (by kernel_rfl) rfl #[.slice Ao171 y182.length co171] rfl (by (try simp only [List.map_toArray, List.map_cons, List.map_nil]); first | done | rfl | (simp only [List.length_drop, List.length_take]; rfl)) ?_; (with_reducible refine (codec_Frame.calls k _ _ y182 t185 t186 _ ?side1 ?side2 A21.out).mono ?_); (case side1 => exact zC (Kd.R_reads' HO184.out).2.2); (case side2 => exact (Kd.R_reads' HO184.out).2.1); rintro e w172 ⟨v187, rfl, ho0, hb⟩; refine ⟨_, rfl, ?_⟩; have n0_ := am (Kd.R_elder' (zR HO175.out) (Kd.R_base ho0) hb); have n1_ := am (Kd.R_elder' (zR HO184.out) (Kd.R_base ho0) hb); have n2_ := am (Kd.R_lower (Kd.R_new' (Kd.R_new' ho0 (Kd.R_lt (zR HO175.out))) (Kd.R_lt (zR HO184.out))) (below_size (zL HB.out))); have n3_ := am (blk_below (zB BK171.out) hb); have n4_ := am (blk_below (zB BK172.out) hb); have n5_ := am (below_step (zL HB.out) hb); clear HO175 HO184 BK171 BK172 HB; have HO175 := n0_; have HO184 := n1_; have HO188 := n2_; have BK171 := n3_; have BK172 := n4_; have HB := n5_; clear n0_ n1_ n2_ n3_ n4_ n5_; (try clear hb); (try clear hb2); (try clear hk); (try clear hi); (try clear ho0); have hcz173_0 : w172.cell? ⟨gb172, 0, none⟩ = some (.slice none 0 0) := (blk_cell BK172.out 0).trans rfl; have hcz173_1 : w172.cell? ⟨gb172, 1, none⟩ = some (.slice none 0 0) := (blk_cell BK172.out 1).trans rfl; have hfz173_0 := blk_frozen BK172.out 0; have hfz173_1 := blk_frozen BK172.out 1) | ((with_reducible refine gate_store (t := 24) (p := 6) rfl ?_); refine store_event (t := 24) (p := 6) (v := ?vo_w174) (w1 := ((w172.setCell ⟨gb172, 0, none⟩ (.slice none 0 0)).setCell ⟨gb172, 1, none⟩ (.slice none 0 0))) ?hg ?ho ?hn ?hr ?_; (case ho => rfl); (case hg => rfl); (case hn => rfl); (case hr => first | (go_simp; done) | (go_simp; rfl)); intro w174 hw; have n0_ : Aside0 (Kd.R (Kd.int .u8) 5 w174 w.heap.size (fun k_ => some k_ ≠ (.slice Ao171 y182.length co171 : Value).ownBlock ∧ some k_ ≠ (v187 : Value).ownBlock) v174 t173) := ⟨(by rw [hw]; exact (by exact zR <| Kd.R_mono (Kd.R_far (p := ⟨gb172, 1, none⟩) (Kd.R_far (p := ⟨gb172, 0, none⟩) (Kd.R_types HO175.out BK172.out (by decide)) (fun _ hk => hk.2) (.slice none 0 0)) (fun _ hk => hk.2) (.slice none 0 0)) (fun _ hk => ⟨hk.1.1.2, hk.1.2⟩)))⟩; have n1_ : Aside0 (Kd.R (Kd.int .u8) 5 w174 w.heap.size (fun k_ => some k_ ≠ (v174 : Value).ownBlock ∧ some k_ ≠ (v187 : Value).ownBlock) (.slice Ao171 y182.length co171) y182) := ⟨(by rw [hw]; exact (by exact zR <| Kd.R_mono (Kd.R_far (p := ⟨gb172, 1, none⟩) (Kd.R_far (p := ⟨gb172, 0, none⟩) (Kd.R_types HO184.out BK172.out (by decide)) (fun _ hk => hk.2) (.slice none 0 0)) (fun _ hk => hk.2) (.slice none 0 0)) (fun _ hk => ⟨hk.1.1, hk.1.2⟩)))⟩; have n2_ : Aside0 (Kd.R (Kd.int .u8) 5 w174 w.heap.size (fun k_ => some k_ ≠ (v174 : Value).ownBlock ∧ some k_ ≠ (.slice Ao171 y182.length co171 : Value).ownBlock) v187 t185) := ⟨(by rw [hw]; exact (by exact zR <| Kd.R_mono (Kd.R_far (p := ⟨gb172, 1, none⟩) (Kd.R_far (p := ⟨gb172, 0, none⟩) (Kd.R_types HO188.out BK172.out (by decide)) (fun _ hk => hk.2) (.slice none 0 0)) (fun _ hk => hk.2) (.slice none 0 0)) (fun _ hk => ⟨hk.1.1.2, hk.1.2⟩)))⟩; have n3_ : Aside0 (w174.heap[gb171]? = some (.cells #[.slice A0_0 l0_0.length c0_0, .slice A0_1 l0_1.length c0_1] 24 (0, 0))) := ⟨(by rw [hw]; exact (by refine blk_far ?_ NB171_172.out _; refine blk_far ?_ NB171_172.out _; exact zB <| BK171.out))⟩; have n4_ : Aside0 (w174.heap[gb172]? = some (.cells #[.slice none 0 0, .slice none 0 0] 24 (0, 0))) := ⟨(by rw [hw]; exact (by refine blk_put (cs := #[.slice none 0 0, .slice none 0 0]) ?_ 1 _ rfl; refine blk_put (cs := #[.slice none 0 0, .slice none 0 0]) ?_ 0 _ rfl; exact zB <| BK172.out))⟩; have n5_ : Aside0 (Below w.heap.size w w174) := ⟨(by rw [hw]; exact (by repeat (first | (with_reducible first | exact HB.out | apply ba | apply bd | apply be | refine below_set ?_ GE171.out | refine below_set ?_ GE172.out) | exact HB.out)))⟩; clear hw HO175 HO184 HO188 BK171 BK172 HB; have HO175 := n0_; have HO184 := n1_; have HO188 := n2_; have BK171 := n3_; have BK172 := n4_; have HB := n5_; clear n0_ n1_ n2_ n3_ n4_ n5_))
     refine bodyPost_ret (results_ct rfl _ _ gb172 24 #[.slice none 0 0, .slice none 0 0] (0, 0) _ rfl (zB BK172.out) Try.underlying24 rfl (by kernel_rfl)) rfl ?_
     exact ⟨_, _, by first | rfl | (simp [errW_none, errW_some] <;> rfl) | (simp [*, errW_none, errW_some] <;> rfl), by first | exact Kd.R_nil _ _ _ _ _ | exact Kd.N_nil _ _ _ _ _ | exact Kd.V_nil _ _ _ _ _ | exact Kd.Q_nil _ _ _ _ _ | exact Kd.S_nil _ _ _ _ _, by first | exact Kd.R_nil _ _ _ _ _ | exact Kd.N_nil _ _ _ _ _ | exact Kd.V_nil _ _ _ _ _ | exact Kd.Q_nil _ _ _ _ _ | exact Kd.S_nil _ _ _ _ _, by repeat (first | (with_reducible first | exact HB.out | apply ba | apply bd | apply be | refine below_set ?_ GE171.out | refine below_set ?_ GE172.out) | exact HB.out)⟩
   ·rw [if_neg c20] at H
    exact absurd H (by simp)


end Go.Proofs.Ytjdicbffpbpenaa.Y

-- The row of the law clusterlockslaw23_ChannelFresh, laid by a program of this session's (xrow.py).
import Derived.Test.YtnhdppfmdhdmdaaYQChannelFresh
import Derived.Test.YtnhdppfmdhdmdaaPureChannelFresh
namespace Go.Proofs.Ytnhdppfmdhdmdaa.channelFresh
open Go.ChangeShapes Go.WideShapes Go.ChangeAt Go.RowKit Go.Proofs.Ytnhdppfmdhdmdaa.Y
open Go.Proofs.YtnhdppfmdhdmdaaW.PrintWords Go.Proofs.YtnhdppfmdhdmdaaW.PrintLast Go.Proofs.YtnhdppfmdhdmdaaW.PrintMore
set_option linter.unusedVariables false
theorem own : ownKnob Try.prog.godebug = none := by kernel_rfl
theorem laidOut : laidOutB Try.prog = true := by kernel_rfl
set_option maxRecDepth 100000 in
set_option maxHeartbeats 4000000 in
theorem lifted (os : Os) (started : os.Started) (H : Type) (enc : TypeId × Value → H) :
    ReturnsInHanded {} Try.checked os 4 .any (Rows.channelFreshSpec.pre6 enc Try.prog Try.f4 Rows.channelFreshRow.domain false) (Rows.channelFreshSpec.post enc Try.prog Try.f4 false true false false) := by
  refine returnsInHanded_of_change_sized (C := Try.checked) own started (by kernel_rfl) Try.func4
    (ChangeSpec.witness6 (enc := enc) (C := Try.checked) false ⟨#[], #[.slice none 0 0, .int .i64 0, .int .i64 0, .int .u8 0], []⟩ 8 (by kernel_rfl) (by kernel_rfl) (by kernel_rfl) (by kernel_rfl)) ?_
  intro W base args ds gs before hval0 hW hcnd hsz0 _
  have hsz : (DataW.weightsEach Try.prog (Try.f4.params.toList ++ Rows.channelFreshSpec.plain.varTypes Try.prog) (ds ++ gs)).all (· ≤ reachBytes) = true := hsz0
  have hval : ∀ (j : Nat) t v, Try.f4.params[j]? = some t → args[j]? = some v → Value.okWide Try.prog W .any base t v := hval0
  have hW' := hW
  obtain ⟨p, q, hA0, hV, rfl, hfz, hnd⟩ := hW
  have hA : DataW.TrodAll enc Try.prog W 0 (fun _ => true) true Try.f4.params.toList args.toList ds p := hA0
  rw [Try.params4] at hA hval hsz
  obtain ⟨v0, vs0, d0, ds0, p0, q0, hargs, rfl, rfl, h0, r0⟩ := trodAll_cons hA
  obtain ⟨v1, vs1, d1, ds1, p1, q1, rfl, rfl, rfl, h1, r1⟩ := trodAll_cons r0
  obtain ⟨v2, vs2, d2, ds2, p2, q2, rfl, rfl, rfl, h2, r2⟩ := trodAll_cons r1
  obtain ⟨v3, vs3, d3, ds3, p3, q3, rfl, rfl, rfl, h3, r3⟩ := trodAll_cons r2
  obtain ⟨rfl, rfl, rfl⟩ := trodAll_nil r3
  obtain rfl : args = #[v0, v1, v2, v3] := by cases args; simp_all
  obtain ⟨rfl, rfl⟩ := trodVars_none hV
  have k0_ := h0
  have lt0 : ∀ x ∈ p0, x.block < W.heap.size := by obtain ⟨m, hm⟩ := k0_; exact DataW.trod_lt m _ _ _ hm
  obtain ⟨fl0, hf0⟩ := h0
  obtain ⟨x0, g0, wf0, bk0⟩ := (opens_sliceN (wf := (fun l : List Int => l.length ≤ maxLen ∧ ∀ x ∈ l, (fun x : Int => (Lit.int .u8 x).wf = true) x)) (B := (fun l : List Int => l.length + (l.map (fun _ : Int => 0)).sum)) (P := Try.prog) Try.underlying22 (by kernel_rfl) (fun m_ => (opens_sliceN (wf := (fun x : Int => (Lit.int .u8 x).wf = true)) (B := (fun _ : Int => 0)) (P := Try.prog) Try.underlying25 (by kernel_rfl) (fun m_ => (Xr.opens_int Try.underlying5 m_)) m_)) fl0) enc W 0 (fun _ => true) true _ _ hf0
  obtain ⟨ao0, len0, cap0, rfl⟩ := okWide_slice Try.underlying22 (hval 0 22 v0 rfl rfl)
  obtain ⟨A0, c0, e0, hc0, hC0⟩ := g0
  injection e0 with e0 _
  injection e0 with ea0 el0 ec0
  subst ea0
  subst el0
  subst ec0
  have y0 : x0.length * 24 ≤ 140737488351232 := Xr.sized_slice' hsz (j := 0) (t := 22) rfl rfl Try.underlying22 (by kernel_rfl) k0_
  have k1_ := h1
  have lt1 : ∀ x ∈ p1, x.block < W.heap.size := by obtain ⟨m, hm⟩ := k1_; exact DataW.trod_lt m _ _ _ hm
  obtain ⟨fl1, hf1⟩ := h1
  obtain ⟨x1, g1, wf1, bk1⟩ := (Xr.opens_int Try.underlying3 fl1) enc W 0 (fun _ => true) true _ _ hf1
  obtain ⟨m1, rfl⟩ := okWide_int Try.underlying3 (hval 1 3 v1 rfl rfl)
  have e1 : [Value.int .i64 m1] = [Value.int .i64 x1] := g1
  injection e1 with e1 _
  injection e1 with _ e1
  obtain rfl := e1.symm
  have k2_ := h2
  have lt2 : ∀ x ∈ p2, x.block < W.heap.size := by obtain ⟨m, hm⟩ := k2_; exact DataW.trod_lt m _ _ _ hm
  obtain ⟨fl2, hf2⟩ := h2
  obtain ⟨x2, g2, wf2, bk2⟩ := (Xr.opens_int Try.underlying3 fl2) enc W 0 (fun _ => true) true _ _ hf2
  obtain ⟨m2, rfl⟩ := okWide_int Try.underlying3 (hval 2 3 v2 rfl rfl)
  have e2 : [Value.int .i64 m2] = [Value.int .i64 x2] := g2
  injection e2 with e2 _
  injection e2 with _ e2
  obtain rfl := e2.symm
  have k3_ := h3
  have lt3 : ∀ x ∈ p3, x.block < W.heap.size := by obtain ⟨m, hm⟩ := k3_; exact DataW.trod_lt m _ _ _ hm
  obtain ⟨fl3, hf3⟩ := h3
  obtain ⟨x3, g3, wf3, bk3⟩ := (Xr.opens_int Try.underlying5 fl3) enc W 0 (fun _ => true) true _ _ hf3
  obtain ⟨m3, rfl⟩ := okWide_int Try.underlying5 (hval 3 5 v3 rfl rfl)
  have e3 : [Value.int .u8 m3] = [Value.int .u8 x3] := g3
  injection e3 with e3 _
  injection e3 with _ e3
  obtain rfl := e3.symm
  obtain ⟨kr, hP⟩ := Pure.ChannelFresh x0 x1 x2 x3 wf0 y0 wf1 wf2 wf3
  clear hA0 hval0 hsz0 hsz
  refine (clusterlockslaw23_ChannelFresh.calls kr _ _ x0 x1 x2 x3 true W hC0 hc0 hP).mono fun e W' hend => ?_
  obtain ⟨he, bel0⟩ := hend
  have bel : Below W.heap.size W W' := bel0
  subst he
  exact ⟨_, rfl, _, _, _, [], _, [], hW', trodAll_mk1 (shut_bool Try.underlying4 _), (trodAll_cons_mk (Below.trod laidOut (by kernel_rfl) (of_decide_eq_true (by kernel_rfl)) k0_ bel lt0) (trodAll_cons_mk (Below.trod laidOut (by kernel_rfl) (of_decide_eq_true (by kernel_rfl)) k1_ bel lt1) (trodAll_cons_mk (Below.trod laidOut (by kernel_rfl) (of_decide_eq_true (by kernel_rfl)) k2_ bel lt2) (trodAll_cons_mk (Below.trod laidOut (by kernel_rfl) (of_decide_eq_true (by kernel_rfl)) k3_ bel lt3) trodAll_mk0)))), rfl, bel.frame _, fun h => by cases h⟩
theorem over : Rows.channelFreshRow.holds Try.pinned (OpenSpec.ofChange Rows.channelFreshSpec) :=
  OpenClaim.holds_of_wide 4 Try.f4 rfl rfl rfl rfl rfl rfl rfl ⟨rfl, rfl, rfl, rfl, rfl⟩ rfl rfl rfl rfl rfl (by kernel_rfl) Try.func4 (by kernel_rfl)
    (of_decide_eq_true (by kernel_rfl)) (by unfold Func.isWrapper; first | (rw [if_pos (by decide +kernel)]; kernel_rfl) | (rw [if_neg (by decide +kernel)]; exact ⟨rfl, rfl⟩))
    (fun os started H enc _ => lifted os started H enc)
end Go.Proofs.Ytnhdppfmdhdmdaa.channelFresh
namespace Go.Proofs.Ytnhdppfmdhdmdaa
/-- The row, under a short name, for the claim. -/
theorem channelFresh_holds : Rows.ChannelFreshSaid := channelFresh.over
#print axioms channelFresh_holds
end Go.Proofs.Ytnhdppfmdhdmdaa

-- The row of the law clusterlockslaw11_LineFirst, laid by a program of this session's (xrow.py).
import Derived.Test.YtgomhoolipfkmaaYQLineFirst
import Derived.Test.YtgomhoolipfkmaaPureLineFirst
namespace Go.Proofs.Ytgomhoolipfkmaa.lineFirst
open Go.ChangeShapes Go.WideShapes Go.ChangeAt Go.RowKit Go.Proofs.Ytgomhoolipfkmaa.Y
open Go.Proofs.YtgomhoolipfkmaaW.PrintWords Go.Proofs.YtgomhoolipfkmaaW.PrintLast Go.Proofs.YtgomhoolipfkmaaW.PrintMore
set_option linter.unusedVariables false
theorem own : ownKnob Try.prog.godebug = none := by kernel_rfl
theorem laidOut : laidOutB Try.prog = true := by kernel_rfl
set_option maxRecDepth 100000 in
set_option maxHeartbeats 4000000 in
theorem lifted (os : Os) (started : os.Started) (H : Type) (enc : TypeId × Value → H) :
    ReturnsInHanded {} Try.checked os 9 .any (Rows.lineFirstSpec.pre6 enc Try.prog Try.f9 Rows.lineFirstRow.domain false) (Rows.lineFirstSpec.post enc Try.prog Try.f9 false true false false) := by
  refine returnsInHanded_of_change_sized (C := Try.checked) own started (by kernel_rfl) Try.func9
    (ChangeSpec.witness6 (enc := enc) (C := Try.checked) false ⟨#[], #[.slice none 0 0], []⟩ 8 (by kernel_rfl) (by kernel_rfl) (by kernel_rfl) (by kernel_rfl)) ?_
  intro W base args ds gs before hval0 hW hcnd hsz0 _
  have hsz : (DataW.weightsEach Try.prog (Try.f9.params.toList ++ Rows.lineFirstSpec.plain.varTypes Try.prog) (ds ++ gs)).all (· ≤ reachBytes) = true := hsz0
  have hval : ∀ (j : Nat) t v, Try.f9.params[j]? = some t → args[j]? = some v → Value.okWide Try.prog W .any base t v := hval0
  have hW' := hW
  obtain ⟨p, q, hA0, hV, rfl, hfz, hnd⟩ := hW
  have hA : DataW.TrodAll enc Try.prog W 0 (fun _ => true) true Try.f9.params.toList args.toList ds p := hA0
  rw [Try.params9] at hA hval hsz
  obtain ⟨v0, vs0, d0, ds0, p0, q0, hargs, rfl, rfl, h0, r0⟩ := trodAll_cons hA
  obtain ⟨rfl, rfl, rfl⟩ := trodAll_nil r0
  obtain rfl : args = #[v0] := by cases args; simp_all
  obtain ⟨rfl, rfl⟩ := trodVars_none hV
  have k0_ := h0
  have lt0 : ∀ x ∈ p0, x.block < W.heap.size := by obtain ⟨m, hm⟩ := k0_; exact DataW.trod_lt m _ _ _ hm
  obtain ⟨fl0, hf0⟩ := h0
  obtain ⟨x0, g0, wf0, bk0⟩ := (opens_sliceN (wf := (fun x : Int => (Lit.int .i64 x).wf = true)) (B := (fun _ : Int => 0)) (P := Try.prog) Try.underlying46 (by kernel_rfl) (fun m_ => (Xr.opens_int Try.underlying3 m_)) fl0) enc W 0 (fun _ => true) true _ _ hf0
  obtain ⟨ao0, len0, cap0, rfl⟩ := okWide_slice Try.underlying46 (hval 0 46 v0 rfl rfl)
  obtain ⟨A0, c0, e0, hc0, hC0⟩ := g0
  injection e0 with e0 _
  injection e0 with ea0 el0 ec0
  subst ea0
  subst el0
  subst ec0
  have y0 : x0.length * 8 ≤ 140737488351232 := Xr.sized_slice' hsz (j := 0) (t := 46) rfl rfl Try.underlying46 (by kernel_rfl) k0_
  obtain ⟨kr, hP⟩ := Pure.LineFirst x0 wf0 y0
  clear hA0 hval0 hsz0 hsz
  refine (clusterlockslaw11_LineFirst.calls kr _ _ x0 true W hC0 hc0 hP).mono fun e W' hend => ?_
  obtain ⟨he, bel0⟩ := hend
  have bel : Below W.heap.size W W' := bel0
  subst he
  exact ⟨_, rfl, _, _, _, [], _, [], hW', trodAll_mk1 (shut_bool Try.underlying4 _), (trodAll_cons_mk (Below.trod laidOut (by kernel_rfl) (of_decide_eq_true (by kernel_rfl)) k0_ bel lt0) trodAll_mk0), rfl, bel.frame _, fun h => by cases h⟩
theorem over : Rows.lineFirstRow.holds Try.pinned (OpenSpec.ofChange Rows.lineFirstSpec) :=
  OpenClaim.holds_of_wide 9 Try.f9 rfl rfl rfl rfl rfl rfl rfl ⟨rfl, rfl, rfl, rfl, rfl⟩ rfl rfl rfl rfl rfl (by kernel_rfl) Try.func9 (by kernel_rfl)
    (of_decide_eq_true (by kernel_rfl)) (by unfold Func.isWrapper; first | (rw [if_pos (by decide +kernel)]; kernel_rfl) | (rw [if_neg (by decide +kernel)]; exact ⟨rfl, rfl⟩))
    (fun os started H enc _ => lifted os started H enc)
end Go.Proofs.Ytgomhoolipfkmaa.lineFirst
namespace Go.Proofs.Ytgomhoolipfkmaa
/-- The row, under a short name, for the claim. -/
theorem lineFirst_holds : Rows.LineFirstSaid := lineFirst.over
#print axioms lineFirst_holds
end Go.Proofs.Ytgomhoolipfkmaa

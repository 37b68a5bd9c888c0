-- The row of the law clusterlockslaw08_FormulaMonotone, laid by a program of this session's (xrow.py).
import Derived.Test.YtefbcebpokoinaaYQFormulaMonotone
import Derived.Test.YtefbcebpokoinaaPureFormulaMonotone
namespace Go.Proofs.Ytefbcebpokoinaa.formulaMonotone
open Go.ChangeShapes Go.WideShapes Go.ChangeAt Go.RowKit Go.Proofs.Ytefbcebpokoinaa.Y
open Go.Proofs.YtefbcebpokoinaaW.PrintWords Go.Proofs.YtefbcebpokoinaaW.PrintLast Go.Proofs.YtefbcebpokoinaaW.PrintMore
set_option linter.unusedVariables false
theorem own : ownKnob Try.prog.godebug = none := by kernel_rfl
theorem laidOut : laidOutB Try.prog = true := by kernel_rfl
set_option maxRecDepth 100000 in
set_option maxHeartbeats 4000000 in
theorem lifted (os : Os) (started : os.Started) (H : Type) (enc : TypeId × Value → H) :
    ReturnsInHanded {} Try.checked os 5 .any (Rows.formulaMonotoneSpec.pre6 enc Try.prog Try.f5 Rows.formulaMonotoneRow.domain false) (Rows.formulaMonotoneSpec.post enc Try.prog Try.f5 false true false false) := by
  refine returnsInHanded_of_change_sized (C := Try.checked) own started (by kernel_rfl) Try.func5
    (ChangeSpec.witness6 (enc := enc) (C := Try.checked) false ⟨#[], #[.slice none 0 0, .slice none 0 0, .slice none 0 0], []⟩ 8 (by kernel_rfl) (by kernel_rfl) (by kernel_rfl) (by kernel_rfl)) ?_
  intro W base args ds gs before hval0 hW hcnd hsz0 _
  have hsz : (DataW.weightsEach Try.prog (Try.f5.params.toList ++ Rows.formulaMonotoneSpec.plain.varTypes Try.prog) (ds ++ gs)).all (· ≤ reachBytes) = true := hsz0
  have hval : ∀ (j : Nat) t v, Try.f5.params[j]? = some t → args[j]? = some v → Value.okWide Try.prog W .any base t v := hval0
  have hW' := hW
  obtain ⟨p, q, hA0, hV, rfl, hfz, hnd⟩ := hW
  have hA : DataW.TrodAll enc Try.prog W 0 (fun _ => true) true Try.f5.params.toList args.toList ds p := hA0
  rw [Try.params5] at hA hval hsz
  obtain ⟨v0, vs0, d0, ds0, p0, q0, hargs, rfl, rfl, h0, r0⟩ := trodAll_cons hA
  obtain ⟨v1, vs1, d1, ds1, p1, q1, rfl, rfl, rfl, h1, r1⟩ := trodAll_cons r0
  obtain ⟨v2, vs2, d2, ds2, p2, q2, rfl, rfl, rfl, h2, r2⟩ := trodAll_cons r1
  obtain ⟨rfl, rfl, rfl⟩ := trodAll_nil r2
  obtain rfl : args = #[v0, v1, v2] := by cases args; simp_all
  obtain ⟨rfl, rfl⟩ := trodVars_none hV
  have k0_ := h0
  have lt0 : ∀ x ∈ p0, x.block < W.heap.size := by obtain ⟨m, hm⟩ := k0_; exact DataW.trod_lt m _ _ _ hm
  obtain ⟨fl0, hf0⟩ := h0
  obtain ⟨x0, g0, wf0, bk0⟩ := (opens_sliceN (wf := (fun x : Int => (Lit.int .i64 x).wf = true)) (B := (fun _ : Int => 0)) (P := Try.prog) Try.underlying35 (by kernel_rfl) (fun m_ => (Xr.opens_int Try.underlying3 m_)) fl0) enc W 0 (fun _ => true) true _ _ hf0
  obtain ⟨ao0, len0, cap0, rfl⟩ := okWide_slice Try.underlying35 (hval 0 35 v0 rfl rfl)
  obtain ⟨A0, c0, e0, hc0, hC0⟩ := g0
  injection e0 with e0 _
  injection e0 with ea0 el0 ec0
  subst ea0
  subst el0
  subst ec0
  have y0 : x0.length * 8 ≤ 140737488351232 := Xr.sized_slice' hsz (j := 0) (t := 35) rfl rfl Try.underlying35 (by kernel_rfl) k0_
  have k1_ := h1
  have lt1 : ∀ x ∈ p1, x.block < W.heap.size := by obtain ⟨m, hm⟩ := k1_; exact DataW.trod_lt m _ _ _ hm
  obtain ⟨fl1, hf1⟩ := h1
  obtain ⟨x1, g1, wf1, bk1⟩ := (opens_sliceN (wf := (fun _ : Bool => True)) (B := (fun _ : Bool => 0)) (P := Try.prog) Try.underlying33 (by kernel_rfl) (fun m_ => (Xr.opens_bool Try.underlying4 m_)) fl1) enc W 0 (fun _ => true) true _ _ hf1
  obtain ⟨ao1, len1, cap1, rfl⟩ := okWide_slice Try.underlying33 (hval 1 33 v1 rfl rfl)
  obtain ⟨A1, c1, e1, hc1, hC1⟩ := g1
  injection e1 with e1 _
  injection e1 with ea1 el1 ec1
  subst ea1
  subst el1
  subst ec1
  have y1 : x1.length * 1 ≤ 140737488351232 := Xr.sized_slice' hsz (j := 1) (t := 33) rfl rfl Try.underlying33 (by kernel_rfl) k1_
  have k2_ := h2
  have lt2 : ∀ x ∈ p2, x.block < W.heap.size := by obtain ⟨m, hm⟩ := k2_; exact DataW.trod_lt m _ _ _ hm
  obtain ⟨fl2, hf2⟩ := h2
  obtain ⟨x2, g2, wf2, bk2⟩ := (opens_sliceN (wf := (fun _ : Bool => True)) (B := (fun _ : Bool => 0)) (P := Try.prog) Try.underlying33 (by kernel_rfl) (fun m_ => (Xr.opens_bool Try.underlying4 m_)) fl2) enc W 0 (fun _ => true) true _ _ hf2
  obtain ⟨ao2, len2, cap2, rfl⟩ := okWide_slice Try.underlying33 (hval 2 33 v2 rfl rfl)
  obtain ⟨A2, c2, e2, hc2, hC2⟩ := g2
  injection e2 with e2 _
  injection e2 with ea2 el2 ec2
  subst ea2
  subst el2
  subst ec2
  have y2 : x2.length * 1 ≤ 140737488351232 := Xr.sized_slice' hsz (j := 2) (t := 33) rfl rfl Try.underlying33 (by kernel_rfl) k2_
  obtain ⟨kr, hP⟩ := Pure.FormulaMonotone x0 x1 x2 wf0 y0 wf1 y1 wf2 y2
  clear hA0 hval0 hsz0 hsz
  refine (clusterlockslaw08_FormulaMonotone.calls kr _ _ x0 _ _ x1 _ _ x2 true W hC0 hc0 hC1 hc1 hC2 hc2 hP).mono fun e W' hend => ?_
  obtain ⟨he, bel0⟩ := hend
  have bel : Below W.heap.size W W' := bel0
  subst he
  exact ⟨_, rfl, _, _, _, [], _, [], hW', trodAll_mk1 (shut_bool Try.underlying4 _), (trodAll_cons_mk (Below.trod laidOut (by kernel_rfl) (of_decide_eq_true (by kernel_rfl)) k0_ bel lt0) (trodAll_cons_mk (Below.trod laidOut (by kernel_rfl) (of_decide_eq_true (by kernel_rfl)) k1_ bel lt1) (trodAll_cons_mk (Below.trod laidOut (by kernel_rfl) (of_decide_eq_true (by kernel_rfl)) k2_ bel lt2) trodAll_mk0))), rfl, bel.frame _, fun h => by cases h⟩
theorem over : Rows.formulaMonotoneRow.holds Try.pinned (OpenSpec.ofChange Rows.formulaMonotoneSpec) :=
  OpenClaim.holds_of_wide 5 Try.f5 rfl rfl rfl rfl rfl rfl rfl ⟨rfl, rfl, rfl, rfl, rfl⟩ rfl rfl rfl rfl rfl (by kernel_rfl) Try.func5 (by kernel_rfl)
    (of_decide_eq_true (by kernel_rfl)) (by unfold Func.isWrapper; first | (rw [if_pos (by decide +kernel)]; kernel_rfl) | (rw [if_neg (by decide +kernel)]; exact ⟨rfl, rfl⟩))
    (fun os started H enc _ => lifted os started H enc)
end Go.Proofs.Ytefbcebpokoinaa.formulaMonotone
namespace Go.Proofs.Ytefbcebpokoinaa
/-- The row, under a short name, for the claim. -/
theorem formulaMonotone_holds : Rows.FormulaMonotoneSaid := formulaMonotone.over
#print axioms formulaMonotone_holds
end Go.Proofs.Ytefbcebpokoinaa

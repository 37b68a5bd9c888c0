-- The row of the law clusterlockslaw08_FormulaResolves, laid by a program of this session's (xrow.py).
import Derived.Test.YtefbcebpokoinaaYQFormulaResolves
import Derived.Test.YtefbcebpokoinaaPureFormulaResolves
namespace Go.Proofs.Ytefbcebpokoinaa.formulaResolves
open Go.ChangeShapes Go.WideShapes Go.ChangeAt Go.RowKit Go.Proofs.Ytefbcebpokoinaa.Y
open Go.Proofs.YtefbcebpokoinaaW.PrintWords Go.Proofs.YtefbcebpokoinaaW.PrintLast Go.Proofs.YtefbcebpokoinaaW.PrintMore
set_option linter.unusedVariables false
theorem own : ownKnob Try.prog.godebug = none := by kernel_rfl
theorem laidOut : laidOutB Try.prog = true := by kernel_rfl
set_option maxRecDepth 100000 in
set_option maxHeartbeats 4000000 in
theorem lifted (os : Os) (started : os.Started) (H : Type) (enc : TypeId × Value → H) :
    ReturnsInHanded {} Try.checked os 10 .any (Rows.formulaResolvesSpec.pre6 enc Try.prog Try.f10 Rows.formulaResolvesRow.domain false) (Rows.formulaResolvesSpec.post enc Try.prog Try.f10 false true false false) := by
  refine returnsInHanded_of_change_sized (C := Try.checked) own started (by kernel_rfl) Try.func10
    (ChangeSpec.witness6 (enc := enc) (C := Try.checked) false ⟨#[], #[.slice none 0 0, .agg #[.int .i64 0, .string ByteArray.empty, .int .i64 0, .int .i64 0, .slice none 0 0]], []⟩ 8 (by kernel_rfl) (by kernel_rfl) (by kernel_rfl) (by kernel_rfl)) ?_
  intro W base args ds gs before hval0 hW hcnd hsz0 _
  have hsz : (DataW.weightsEach Try.prog (Try.f10.params.toList ++ Rows.formulaResolvesSpec.plain.varTypes Try.prog) (ds ++ gs)).all (· ≤ reachBytes) = true := hsz0
  have hval : ∀ (j : Nat) t v, Try.f10.params[j]? = some t → args[j]? = some v → Value.okWide Try.prog W .any base t v := hval0
  have hW' := hW
  obtain ⟨p, q, hA0, hV, rfl, hfz, hnd⟩ := hW
  have hA : DataW.TrodAll enc Try.prog W 0 (fun _ => true) true Try.f10.params.toList args.toList ds p := hA0
  rw [Try.params10] at hA hval hsz
  obtain ⟨v0, vs0, d0, ds0, p0, q0, hargs, rfl, rfl, h0, r0⟩ := trodAll_cons hA
  obtain ⟨v1, vs1, d1, ds1, p1, q1, rfl, rfl, rfl, h1, r1⟩ := trodAll_cons r0
  obtain ⟨rfl, rfl, rfl⟩ := trodAll_nil r1
  obtain rfl : args = #[v0, v1] := by cases args; simp_all
  obtain ⟨rfl, rfl⟩ := trodVars_none hV
  have k0_ := h0
  have lt0 : ∀ x ∈ p0, x.block < W.heap.size := by obtain ⟨m, hm⟩ := k0_; exact DataW.trod_lt m _ _ _ hm
  obtain ⟨fl0, hf0⟩ := h0
  obtain ⟨x0, g0, wf0, bk0⟩ := (opens_sliceN (wf := w59) (B := b59) (P := Try.prog) Try.underlying41 (by kernel_rfl) (fun m_ => (o59 m_)) fl0) enc W 0 (fun _ => true) true _ _ hf0
  obtain ⟨ao0, len0, cap0, rfl⟩ := okWide_slice Try.underlying41 (hval 0 41 v0 rfl rfl)
  obtain ⟨A0, c0, e0, hc0, hC0⟩ := g0
  injection e0 with e0 _
  injection e0 with ea0 el0 ec0
  subst ea0
  subst el0
  subst ec0
  have y0 : x0.length * 40 ≤ 140737488351232 := Xr.sized_slice' hsz (j := 0) (t := 41) rfl rfl Try.underlying41 (by kernel_rfl) k0_
  have k1_ := h1
  have lt1 : ∀ x ∈ p1, x.block < W.heap.size := by obtain ⟨m, hm⟩ := k1_; exact DataW.trod_lt m _ _ _ hm
  obtain ⟨fl1, hf1⟩ := h1
  obtain ⟨x1, g1, wf1, bk1⟩ := (o28 fl1) enc W 0 (fun _ => true) true _ _ hf1
  obtain ⟨cs1, rfl, hn1⟩ := okWide_struct Try.underlying28 (hval 1 28 v1 rfl rfl)
  obtain ⟨A1_4, cc1_4, e1, l1_4, C1_4⟩ := k28_open g1
  obtain rfl : cs1 = #[.int .i64 x1.f0, .string x1.f1.f0, .int .i64 x1.f1.f1.f0, .int .i64 x1.f1.f1.f1, .slice A1_4 (x1.f2).length cc1_4] := Array.ext' e1
  obtain ⟨kr, hP⟩ := Pure.FormulaResolves x0 x1 fl1 wf0 y0 wf1
  clear hA0 hval0 hsz0 hsz
  refine (clusterlockslaw08_FormulaResolves.calls kr _ _ x0 x1.f0 x1.f1.f0 x1.f1.f1.f0 x1.f1.f1.f1 _ _ x1.f2 true W hC0 hc0 C1_4 l1_4 hP).mono fun e W' hend => ?_
  obtain ⟨he, bel0⟩ := hend
  have bel : Below W.heap.size W W' := bel0
  subst he
  exact ⟨_, rfl, _, _, _, [], _, [], hW', trodAll_mk1 (shut_bool Try.underlying4 _), (trodAll_cons_mk (Below.trod laidOut (by kernel_rfl) (of_decide_eq_true (by kernel_rfl)) k0_ bel lt0) (trodAll_cons_mk (Below.trod laidOut (by kernel_rfl) (of_decide_eq_true (by kernel_rfl)) k1_ bel lt1) trodAll_mk0)), rfl, bel.frame _, fun h => by cases h⟩
theorem over : Rows.formulaResolvesRow.holds Try.pinned (OpenSpec.ofChange Rows.formulaResolvesSpec) :=
  OpenClaim.holds_of_wide 10 Try.f10 rfl rfl rfl rfl rfl rfl rfl ⟨rfl, rfl, rfl, rfl, rfl⟩ rfl rfl rfl rfl rfl (by kernel_rfl) Try.func10 (by kernel_rfl)
    (of_decide_eq_true (by kernel_rfl)) (by unfold Func.isWrapper; first | (rw [if_pos (by decide +kernel)]; kernel_rfl) | (rw [if_neg (by decide +kernel)]; exact ⟨rfl, rfl⟩))
    (fun os started H enc _ => lifted os started H enc)
end Go.Proofs.Ytefbcebpokoinaa.formulaResolves
namespace Go.Proofs.Ytefbcebpokoinaa
/-- The row, under a short name, for the claim. -/
theorem formulaResolves_holds : Rows.FormulaResolvesSaid := formulaResolves.over
#print axioms formulaResolves_holds
end Go.Proofs.Ytefbcebpokoinaa

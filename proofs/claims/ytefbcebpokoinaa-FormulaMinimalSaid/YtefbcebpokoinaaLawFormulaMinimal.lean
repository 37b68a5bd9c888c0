-- The row of the law clusterlockslaw08_FormulaMinimal, laid by a program of this session's (xrow.py).
import Derived.Test.YtefbcebpokoinaaYQFormulaMinimal
import Derived.Test.YtefbcebpokoinaaPureFormulaMinimal
namespace Go.Proofs.Ytefbcebpokoinaa.formulaMinimal
open Go.ChangeShapes Go.WideShapes Go.ChangeAt Go.RowKit Go.Proofs.Ytefbcebpokoinaa.Y
open Go.Proofs.YtefbcebpokoinaaW.PrintWords Go.Proofs.YtefbcebpokoinaaW.PrintLast Go.Proofs.YtefbcebpokoinaaW.PrintMore
set_option linter.unusedVariables false
theorem own : ownKnob Try.prog.godebug = none := by kernel_rfl
theorem laidOut : laidOutB Try.prog = true := by kernel_rfl
set_option maxRecDepth 100000 in
set_option maxHeartbeats 4000000 in
theorem lifted (os : Os) (started : os.Started) (H : Type) (enc : TypeId × Value → H) :
    ReturnsInHanded {} Try.checked os 8 .any (Rows.formulaMinimalSpec.pre6 enc Try.prog Try.f8 Rows.formulaMinimalRow.domain false) (Rows.formulaMinimalSpec.post enc Try.prog Try.f8 false true false false) := by
  refine returnsInHanded_of_change_sized (C := Try.checked) own started (by kernel_rfl) Try.func8
    (ChangeSpec.witness6 (enc := enc) (C := Try.checked) false ⟨#[], #[.agg #[.int .i64 0, .string ByteArray.empty, .int .i64 0, .int .i64 0, .slice none 0 0], .slice none 0 0], []⟩ 8 (by kernel_rfl) (by kernel_rfl) (by kernel_rfl) (by kernel_rfl)) ?_
  intro W base args ds gs before hval0 hW hcnd hsz0 _
  have hsz : (DataW.weightsEach Try.prog (Try.f8.params.toList ++ Rows.formulaMinimalSpec.plain.varTypes Try.prog) (ds ++ gs)).all (· ≤ reachBytes) = true := hsz0
  have hval : ∀ (j : Nat) t v, Try.f8.params[j]? = some t → args[j]? = some v → Value.okWide Try.prog W .any base t v := hval0
  have hW' := hW
  obtain ⟨p, q, hA0, hV, rfl, hfz, hnd⟩ := hW
  have hA : DataW.TrodAll enc Try.prog W 0 (fun _ => true) true Try.f8.params.toList args.toList ds p := hA0
  rw [Try.params8] at hA hval hsz
  obtain ⟨v0, vs0, d0, ds0, p0, q0, hargs, rfl, rfl, h0, r0⟩ := trodAll_cons hA
  obtain ⟨v1, vs1, d1, ds1, p1, q1, rfl, rfl, rfl, h1, r1⟩ := trodAll_cons r0
  obtain ⟨rfl, rfl, rfl⟩ := trodAll_nil r1
  obtain rfl : args = #[v0, v1] := by cases args; simp_all
  obtain ⟨rfl, rfl⟩ := trodVars_none hV
  have k0_ := h0
  have lt0 : ∀ x ∈ p0, x.block < W.heap.size := by obtain ⟨m, hm⟩ := k0_; exact DataW.trod_lt m _ _ _ hm
  obtain ⟨fl0, hf0⟩ := h0
  obtain ⟨x0, g0, wf0, bk0⟩ := (o28 fl0) enc W 0 (fun _ => true) true _ _ hf0
  obtain ⟨cs0, rfl, hn0⟩ := okWide_struct Try.underlying28 (hval 0 28 v0 rfl rfl)
  obtain ⟨A0_4, cc0_4, e0, l0_4, C0_4⟩ := k28_open g0
  obtain rfl : cs0 = #[.int .i64 x0.f0, .string x0.f1.f0, .int .i64 x0.f1.f1.f0, .int .i64 x0.f1.f1.f1, .slice A0_4 (x0.f2).length cc0_4] := Array.ext' e0
  have k1_ := h1
  have lt1 : ∀ x ∈ p1, x.block < W.heap.size := by obtain ⟨m, hm⟩ := k1_; exact DataW.trod_lt m _ _ _ hm
  obtain ⟨fl1, hf1⟩ := h1
  obtain ⟨x1, g1, wf1, bk1⟩ := (opens_sliceN (wf := (fun _ : Bool => True)) (B := (fun _ : Bool => 0)) (P := Try.prog) Try.underlying33 (by kernel_rfl) (fun m_ => (Xr.opens_bool Try.underlying4 m_)) fl1) enc W 0 (fun _ => true) true _ _ hf1
  obtain ⟨ao1, len1, cap1, rfl⟩ := okWide_slice Try.underlying33 (hval 1 33 v1 rfl rfl)
  obtain ⟨A1, c1, e1, hc1, hC1⟩ := g1
  injection e1 with e1 _
  injection e1 with ea1 el1 ec1
  subst ea1
  subst el1
  subst ec1
  have y1 : x1.length * 1 ≤ 140737488351232 := Xr.sized_slice' hsz (j := 1) (t := 33) rfl rfl Try.underlying33 (by kernel_rfl) k1_
  obtain ⟨kr, hP⟩ := Pure.FormulaMinimal x0 x1 fl0 wf0 wf1 y1
  clear hA0 hval0 hsz0 hsz
  refine (clusterlockslaw08_FormulaMinimal.calls kr x0.f0 x0.f1.f0 x0.f1.f1.f0 x0.f1.f1.f1 _ _ x0.f2 _ _ x1 true W C0_4 l0_4 hC1 hc1 hP).mono fun e W' hend => ?_
  obtain ⟨he, bel0⟩ := hend
  have bel : Below W.heap.size W W' := bel0
  subst he
  exact ⟨_, rfl, _, _, _, [], _, [], hW', trodAll_mk1 (shut_bool Try.underlying4 _), (trodAll_cons_mk (Below.trod laidOut (by kernel_rfl) (of_decide_eq_true (by kernel_rfl)) k0_ bel lt0) (trodAll_cons_mk (Below.trod laidOut (by kernel_rfl) (of_decide_eq_true (by kernel_rfl)) k1_ bel lt1) trodAll_mk0)), rfl, bel.frame _, fun h => by cases h⟩
theorem over : Rows.formulaMinimalRow.holds Try.pinned (OpenSpec.ofChange Rows.formulaMinimalSpec) :=
  OpenClaim.holds_of_wide 8 Try.f8 rfl rfl rfl rfl rfl rfl rfl ⟨rfl, rfl, rfl, rfl, rfl⟩ rfl rfl rfl rfl rfl (by kernel_rfl) Try.func8 (by kernel_rfl)
    (of_decide_eq_true (by kernel_rfl)) (by unfold Func.isWrapper; first | (rw [if_pos (by decide +kernel)]; kernel_rfl) | (rw [if_neg (by decide +kernel)]; exact ⟨rfl, rfl⟩))
    (fun os started H enc _ => lifted os started H enc)
end Go.Proofs.Ytefbcebpokoinaa.formulaMinimal
namespace Go.Proofs.Ytefbcebpokoinaa
/-- The row, under a short name, for the claim. -/
theorem formulaMinimal_holds : Rows.FormulaMinimalSaid := formulaMinimal.over
#print axioms formulaMinimal_holds
end Go.Proofs.Ytefbcebpokoinaa

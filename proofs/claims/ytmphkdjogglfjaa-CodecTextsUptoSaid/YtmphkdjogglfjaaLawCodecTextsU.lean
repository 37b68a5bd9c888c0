-- The row of the law clusterlockslaw01_CodecTexts, laid by a program of this session's (xrow.py).
import Derived.Test.YtmphkdjogglfjaaYQCodecTextsU
import Derived.Test.YtmphkdjogglfjaaPureCodecTextsU
namespace Go.Proofs.Ytmphkdjogglfjaa.codecTextsU
open Go.ChangeShapes Go.WideShapes Go.ChangeAt Go.RowKit Go.Proofs.Ytmphkdjogglfjaa.Y
open Go.Proofs.YtmphkdjogglfjaaW.PrintWords Go.Proofs.YtmphkdjogglfjaaW.PrintLast Go.Proofs.YtmphkdjogglfjaaW.PrintMore
set_option linter.unusedVariables false
theorem own : ownKnob Try.prog.godebug = none := by kernel_rfl
theorem laidOut : laidOutB Try.prog = true := by kernel_rfl
set_option maxRecDepth 100000 in
set_option maxHeartbeats 4000000 in
theorem lifted (os : Os) (started : os.Started) (H : Type) (enc : TypeId × Value → H) (F : Stop.Interp) :
    ReturnsInHanded {} Try.checked os 9 .any ((Rows.OpenSpec.upto Rows.codecTextsSpec).pre6 enc Try.prog Try.f9 Rows.codecTextsUptoRow.domain false) (((Rows.OpenSpec.upto Rows.codecTextsSpec).at F).post enc Try.prog Try.f9 false true false false) := by
  refine returnsInHanded_of_cond (C := Try.checked) (s := Rows.OpenSpec.upto Rows.codecTextsSpec) (k := Rows.uptoSmall) rfl own started (by kernel_rfl) Try.func9
    (OpenSpec.witness (enc := enc) (C := Try.checked) (s := Rows.OpenSpec.upto Rows.codecTextsSpec) (k := Rows.uptoSmall) rfl false ⟨#[], #[.string ByteArray.empty, .slice none 0 0, .slice none 0 0], []⟩ 8 (by kernel_rfl) (by kernel_rfl) (by kernel_rfl)
      (x := ([.lit (.string []), .nil, .nil], [], [])) (by kernel_rfl) rfl (by kernel_rfl)) ?_
  intro W base args ds gs before hval0 hW hcnd hk _
  have hval : ∀ (j : Nat) t v, Try.f9.params[j]? = some t → args[j]? = some v → Value.okWide Try.prog W .any base t v := hval0
  have hW' := hW
  obtain ⟨p, q, hA0, hV, rfl, hfz, hnd⟩ := hW
  have hA : DataW.TrodAll enc Try.prog W 0 (fun _ => true) true Try.f9.params.toList args.toList ds p := hA0
  rw [Try.params9] at hA hval
  obtain ⟨v0, vs0, d0, ds0, p0, q0, hargs, rfl, rfl, h0, r0⟩ := trodAll_cons hA
  obtain ⟨v1, vs1, d1, ds1, p1, q1, rfl, rfl, rfl, h1, r1⟩ := trodAll_cons r0
  obtain ⟨v2, vs2, d2, ds2, p2, q2, rfl, rfl, rfl, h2, r2⟩ := trodAll_cons r1
  obtain ⟨rfl, rfl, rfl⟩ := trodAll_nil r2
  obtain rfl : args = #[v0, v1, v2] := by cases args; simp_all
  obtain ⟨rfl, rfl⟩ := trodVars_none hV
  have hbulk := Xr.bulk_le hk
  simp only [List.append_nil, Rows.uptoBulkAll] at hbulk
  have k0_ := h0
  have lt0 : ∀ x ∈ p0, x.block < W.heap.size := by obtain ⟨m, hm⟩ := k0_; exact DataW.trod_lt m _ _ _ hm
  obtain ⟨fl0, hf0⟩ := h0
  obtain ⟨x0, g0, wf0, bk0⟩ := (Xr.opens_string Try.underlying9 fl0) enc W 0 (fun _ => true) true _ _ hf0
  have bk0 : x0.size + 1 ≤ Rows.uptoBulk d0 := bk0
  obtain ⟨m0, rfl⟩ := okWide_string Try.underlying9 (hval 0 9 v0 rfl rfl)
  have e0 : [Value.string m0] = [Value.string x0] := g0
  injection e0 with e0 _
  injection e0 with e0
  obtain rfl := e0.symm
  have k1_ := h1
  have lt1 : ∀ x ∈ p1, x.block < W.heap.size := by obtain ⟨m, hm⟩ := k1_; exact DataW.trod_lt m _ _ _ hm
  obtain ⟨fl1, hf1⟩ := h1
  obtain ⟨x1, g1, wf1, bk1⟩ := (opens_sliceN (wf := (fun x : Int => (Lit.int .u8 x).wf = true)) (B := (fun _ : Int => 0)) (P := Try.prog) Try.underlying22 (by kernel_rfl) (fun m_ => (Xr.opens_int Try.underlying5 m_)) fl1) enc W 0 (fun _ => true) true _ _ hf1
  have bk1 : (x1.length + (x1.map (fun _ : Int => 0)).sum) + 1 ≤ Rows.uptoBulk d1 := bk1
  obtain ⟨ao1, len1, cap1, rfl⟩ := okWide_slice Try.underlying22 (hval 1 22 v1 rfl rfl)
  obtain ⟨A1, c1, e1, hc1, hC1⟩ := g1
  injection e1 with e1 _
  injection e1 with ea1 el1 ec1
  subst ea1
  subst el1
  subst ec1
  have k2_ := h2
  have lt2 : ∀ x ∈ p2, x.block < W.heap.size := by obtain ⟨m, hm⟩ := k2_; exact DataW.trod_lt m _ _ _ hm
  obtain ⟨fl2, hf2⟩ := h2
  obtain ⟨x2, g2, wf2, bk2⟩ := (opens_sliceN (wf := (fun x : Int => (Lit.int .u8 x).wf = true)) (B := (fun _ : Int => 0)) (P := Try.prog) Try.underlying22 (by kernel_rfl) (fun m_ => (Xr.opens_int Try.underlying5 m_)) fl2) enc W 0 (fun _ => true) true _ _ hf2
  have bk2 : (x2.length + (x2.map (fun _ : Int => 0)).sum) + 1 ≤ Rows.uptoBulk d2 := bk2
  obtain ⟨ao2, len2, cap2, rfl⟩ := okWide_slice Try.underlying22 (hval 2 22 v2 rfl rfl)
  obtain ⟨A2, c2, e2, hc2, hC2⟩ := g2
  injection e2 with e2 _
  injection e2 with ea2 el2 ec2
  subst ea2
  subst el2
  subst ec2
  obtain ⟨kr, hP⟩ := Pure.CodecTextsU x0 x1 x2 wf0 (by omega) wf1 (by omega) wf2 (by omega)
  clear hA0 hval0
  refine (clusterlockslaw01_CodecTexts.calls kr x0 _ _ x1 _ _ x2 true W hC1 hc1 hC2 hc2 hP).mono fun e W' hend => ?_
  obtain ⟨he, bel0⟩ := hend
  have bel : Below W.heap.size W W' := bel0
  subst he
  exact ⟨_, rfl, _, _, _, [], _, [], hW', trodAll_mk1 (shut_bool Try.underlying4 _), (trodAll_cons_mk (Below.trod laidOut (by kernel_rfl) (of_decide_eq_true (by kernel_rfl)) k0_ bel lt0) (trodAll_cons_mk (Below.trod laidOut (by kernel_rfl) (of_decide_eq_true (by kernel_rfl)) k1_ bel lt1) (trodAll_cons_mk (Below.trod laidOut (by kernel_rfl) (of_decide_eq_true (by kernel_rfl)) k2_ bel lt2) trodAll_mk0))), rfl, bel.frame _, fun h => by cases h⟩
theorem over : Rows.codecTextsUptoRow.holds Try.pinned (Rows.OpenSpec.upto Rows.codecTextsSpec) :=
  OpenClaim.holds_of_cond 9 Try.f9 rfl rfl rfl rfl rfl rfl rfl ⟨rfl, rfl, rfl, rfl, rfl⟩ rfl rfl rfl rfl rfl (by kernel_rfl) Try.func9 (by kernel_rfl)
    (of_decide_eq_true (by kernel_rfl)) (by unfold Func.isWrapper; first | (rw [if_pos (by decide +kernel)]; kernel_rfl) | (rw [if_neg (by decide +kernel)]; exact ⟨rfl, rfl⟩))
    (fun os started H enc _ F => lifted os started H enc F)
end Go.Proofs.Ytmphkdjogglfjaa.codecTextsU
namespace Go.Proofs.Ytmphkdjogglfjaa
/-- The row, under a short name, for the claim. -/
theorem codecTextsU_holds : Rows.CodecTextsUptoSaid := codecTextsU.over
#print axioms codecTextsU_holds
end Go.Proofs.Ytmphkdjogglfjaa

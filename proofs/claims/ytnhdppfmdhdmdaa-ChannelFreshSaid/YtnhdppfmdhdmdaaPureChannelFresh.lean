import Derived.Test.YtnhdppfmdhdmdaaPc
import Derived.Test.YtnhdppfmdhdmdaaYQChannelFresh
namespace Go.Proofs.Ytnhdppfmdhdmdaa.Pure
open Go.RowKit Go.Proofs.Ytnhdppfmdhdmdaa.Y Go.Proofs.Ytnhdppfmdhdmdaa.Pa Go.Proofs.Ytnhdppfmdhdmdaa.Pc Go.Proofs.YtnhdppfmdhdmdaaW.PrintWords Go.Proofs.YtnhdppfmdhdmdaaW.PrintLast Go.Proofs.YtnhdppfmdhdmdaaW.PrintMore
set_option linter.unusedVariables false
theorem spl_ok {l : List (List Int)} (hl : Ok l) (i a b : Int) : Ok (spl l i a b).1 := by
  unfold spl
  by_cases h : chk l i = 0
  · obtain ⟨_, h2, h3⟩ := chk_ok h
    rw [if_pos h]
    refine ⟨by simpa using hl.1, fun y hy => ?_⟩
    rcases List.mem_or_eq_of_mem_set hy with h | h
    · exact hl.2 y h
    · rw [h, List.length_set]; exact rd_len hl h2 h3
  · rw [if_neg h]
    exact ⟨by simp, fun y hy => absurd hy (by simp)⟩
theorem fresh_or (l : List (List Int)) (i a b : Int) : (spl l i a b).2 = 0 ∨ ¬ (dbl (spl l i a b).1 i).2 = 0 := by
  unfold spl
  by_cases h : chk l i = 0
  · rw [if_pos h]; exact Or.inl rfl
  · rw [if_neg h]
    refine Or.inr ?_
    have hc : chk [] i = 1 := by
      unfold chk
      rw [if_pos (by decide)]
      by_cases h0 : i < 0
      · rw [if_pos h0]
      · rw [if_neg h0, if_pos (by simp; omega)]
    show ¬ (dbl [] i).2 = 0
    unfold dbl
    rw [hc, if_neg (by decide)]
    decide
theorem ChannelFresh : clusterlockslaw23_ChannelFresh.PureX := by
  intro x0 x1 x2 x3 w0 s0 w1 w2 w3
  refine Al.ex (r := true) ?_
  obtain ⟨b, hb, hs⟩ := short_al x0
  refine Al.bindE (fun k => rfl) hb ?_
  cases b with
  | false => exact Al.bindE (g := fun k => clusterlockslaw23_awake.f k) (fun k => by rw [if_neg (by decide)]) awake_al (Al.val fun k => rfl)
  | true =>
    obtain ⟨h1, h2⟩ := hs rfl
    have hl : Ok x0 := ⟨by omega, fun y hy => by have := h2 y hy; omega⟩
    refine Al.bindE (g := fun k => clusterlocksref23_Valid.f k x0) (fun k => by rw [if_pos rfl]) (rvalid_al x0) ?_
    cases hv : vld x0 with
    | false => exact Al.bindE (g := fun k => clusterlockslaw23_awake.f k) (fun k => by rw [if_neg (by decide)]) awake_al (Al.val fun k => rfl)
    | true =>
      refine Al.bindE (g := fun k => clusterlocksref23_Copy.f k x0) (fun k => by rw [if_pos rfl]) (copy_al hl) ?_
      refine Al.bindE (fun k => rfl) (spoil_al hl x1 x2 (wrap64 x3)) ?_
      have hx := spl_ok hl x1 x2 (wrap64 x3)
      refine Al.bindE (fun k => rfl) (copy_al hx) ?_
      refine Al.bindE (fun k => rfl) (double_al hx x1) ?_
      refine Al.bindE (fun k => rfl) awake_al ?_
      refine Al.bindE (g := fun k => clusterlocksref23_Same.f k x0 x0) (fun k => by rw [if_pos rfl, if_pos (fresh_or x0 x1 x2 (wrap64 x3))]) (same_al (by omega) rfl) ?_
      exact Al.bindE (g := fun k => clusterlocksref23_Same.f k (spl x0 x1 x2 (wrap64 x3)).1 (spl x0 x1 x2 (wrap64 x3)).1) (fun k => by rw [if_pos rfl]) (same_al (by have := hx.1; omega) rfl) (Al.val fun k => by rw [if_pos rfl])
end Go.Proofs.Ytnhdppfmdhdmdaa.Pure

import Derived.Test.YtnhdppfmdhdmdaaPc
import Derived.Test.YtnhdppfmdhdmdaaYQChannelOrder
namespace Go.Proofs.Ytnhdppfmdhdmdaa.Pure
open Go.RowKit Go.Proofs.Ytnhdppfmdhdmdaa.Y Go.Proofs.Ytnhdppfmdhdmdaa.Pa Go.Proofs.Ytnhdppfmdhdmdaa.Pc Go.Proofs.YtnhdppfmdhdmdaaW.PrintWords Go.Proofs.YtnhdppfmdhdmdaaW.PrintLast Go.Proofs.YtnhdppfmdhdmdaaW.PrintMore
set_option linter.unusedVariables false
theorem one_len {b : List Int} (h : one b = true) : b.length ≤ 8192 := by
  unfold one channel_Valid.one at h
  rw [Bool.and_eq_true] at h
  have := of_decide_eq_true h.2
  omega
theorem vld_ok {c : List (List Int)} (h : vld c = true) : Ok c ∧ c.length ≤ 8 := by
  unfold vld at h
  rw [Bool.and_eq_true, List.all_eq_true] at h
  have h8 := of_decide_eq_true h.1
  exact ⟨⟨by omega, fun y hy => by have := one_len (h.2 y hy); omega⟩, by omega⟩
theorem vld_snoc {c : List (List Int)} {b : List Int} (h : vld c = true) (hb : one b = true) (hl : c.length < 8) : vld (c ++ [b]) = true := by
  unfold vld at h ⊢
  rw [Bool.and_eq_true, List.all_eq_true] at h ⊢
  refine ⟨decide_eq_true (by rw [List.length_append, List.length_singleton]; omega), fun y hy => ?_⟩
  rcases List.mem_append.1 hy with hy | hy
  · exact h.2 y hy
  · rw [List.mem_singleton.1 hy]; exact hb
theorem vld_drop {c : List (List Int)} (h : vld c = true) (i : Nat) : vld (c.drop i) = true := by
  unfold vld at h ⊢
  rw [Bool.and_eq_true, List.all_eq_true] at h ⊢
  have := of_decide_eq_true h.1
  exact ⟨decide_eq_true (by rw [List.length_drop]; omega), fun y hy => h.2 y (List.mem_of_mem_drop hy)⟩
theorem order_l1 {s : List (List Int)} (hs : vld s = true) (d : Nat) : ∀ i : Nat, i + d = s.length → Al (fun k => clusterlockslaw23_ChannelOrder.l1 k s (s.drop i) (i : Int)) true := by
  have hl := (vld_ok hs).2
  induction d with
  | zero =>
    intro i hi
    refine Al.succB (g := fun k => clusterlockslaw23_awake.f k) (fun k => by rw [clusterlockslaw23_ChannelOrder.l1, if_neg (by omega)]) awake_al (Al.val fun k => ?_)
    rw [if_pos rfl, if_pos (by rw [List.length_drop]; omega)]
  | succ d ih =>
    intro i hi
    have hv := vld_drop hs i
    have hc : chk (s.drop i) 0 = 0 := by
      unfold chk
      rw [if_pos hv, if_neg (by omega), if_neg (by rw [List.length_drop]; omega)]
    have hd : dlv (s.drop i) 0 = (rd_L1 s (i : Int), s.drop (i + 1), 0) := by
      unfold dlv
      rw [if_pos hc]
      have h1 : rd_L1 (s.drop i) 0 = rd_L1 s (i : Int) := by
        unfold rd_L1
        rw [Int.toNat_natCast, List.getD_eq_getElem?_getD, List.getD_eq_getElem?_getD, List.getElem?_drop]
        rfl
      rw [h1]
      simp [List.drop_drop]
    refine Al.succB (g := fun k => channel_Deliver.f k (s.drop i) 0) (fun k => by rw [clusterlockslaw23_ChannelOrder.l1, if_pos (by omega), if_pos (by omega)]) (deliver_al (vld_ok hv).1 0) ?_
    rw [hd]
    refine Al.congr (ih (i + 1) (by omega)) (fun k => ?_)
    rw [if_pos rfl, if_pos rfl, w64_id (by omega) (by omega)]
    rfl
theorem order_l0 {l : List (List Int)} (hl : l.length ≤ 8) (hr : ∀ y ∈ l, y.length ≤ 10000) (d : Nat) : ∀ (i : Nat) (c : List (List Int)), i + d = l.length → vld c = true → c.length ≤ i → Al (fun k => clusterlockslaw23_ChannelOrder.l0 k l c c (i : Int)) true := by
  induction d with
  | zero =>
    intro i c hi hv hc
    refine Al.succ (order_l1 hv c.length 0 (by omega)) (fun k => ?_)
    rw [clusterlockslaw23_ChannelOrder.l0, if_neg (by omega)]
    rfl
  | succ d ih =>
    intro i c hi hv hc
    have hb : (rd_L1 l (i : Int)).length ≤ 100000 := by
      rw [rd_at (show i < l.length by omega)]
      have := hr _ (List.getElem_mem (show i < l.length by omega))
      omega
    refine Al.succB (g := fun k => channel_Send.f k c (rd_L1 l (i : Int))) (fun k => by rw [clusterlockslaw23_ChannelOrder.l0, if_pos (by omega), if_pos (by omega)]) (send_al (vld_ok hv).1 hb) ?_
    unfold snd
    rw [if_pos hv]
    by_cases h1 : one (rd_L1 l (i : Int)) = true
    · rw [if_pos h1, if_neg (by omega)]
      refine Al.congr (ih (i + 1) (c ++ [rd_L1 l (i : Int)]) (by omega) (vld_snoc hv h1 (by omega)) (by rw [List.length_append, List.length_singleton]; omega)) (fun k => ?_)
      rw [if_pos rfl, if_pos (by omega), w64_id (by omega) (by omega)]
      rfl
    · rw [if_neg h1]
      refine Al.congr (ih (i + 1) c (by omega) hv (by omega)) (fun k => ?_)
      rw [if_neg (by decide), w64_id (by omega) (by omega)]
      rfl
theorem ChannelOrder : clusterlockslaw23_ChannelOrder.PureX := by
  intro x0 w0 s0
  refine Al.ex (r := true) ?_
  by_cases h : (x0.length : Int) > 8
  · exact Al.bindE (g := fun k => clusterlockslaw23_awake.f k) (fun k => by unfold clusterlockslaw23_ChannelOrder.f; rw [if_pos h]) awake_al (Al.val fun k => rfl)
  obtain ⟨b, hb, hs⟩ := short_al x0
  refine Al.bindE (fun k => by unfold clusterlockslaw23_ChannelOrder.f; rw [if_neg h]) hb ?_
  cases b with
  | false => exact Al.bindE (g := fun k => clusterlockslaw23_awake.f k) (fun k => by rw [if_neg (by decide)]) awake_al (Al.val fun k => rfl)
  | true =>
    obtain ⟨h1, h2⟩ := hs rfl
    exact Al.congr (order_l0 (l := x0) (by omega) h2 x0.length 0 [] (by omega) (by decide) (by simp)) (fun k => by rw [if_pos rfl]; rfl)
end Go.Proofs.Ytnhdppfmdhdmdaa.Pure

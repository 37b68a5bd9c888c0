import Derived.Test.YtnhdppfmdhdmdaaPc
import Derived.Test.YtnhdppfmdhdmdaaYQChannelActs
namespace Go.Proofs.Ytnhdppfmdhdmdaa.Pure
open Go.RowKit Go.Proofs.Ytnhdppfmdhdmdaa.Y Go.Proofs.Ytnhdppfmdhdmdaa.Pa Go.Proofs.Ytnhdppfmdhdmdaa.Pc Go.Proofs.YtnhdppfmdhdmdaaW.PrintWords Go.Proofs.YtnhdppfmdhdmdaaW.PrintLast Go.Proofs.YtnhdppfmdhdmdaaW.PrintMore
set_option linter.unusedVariables false
theorem acts_awake (x0 : List (List Int)) (x1 : List Int) (a b c : Int) : Al (fun k => clusterlockslaw23_ChannelActs.j0 k x0 x1 a b c true) true :=
  Al.succB (g := fun k => clusterlockslaw23_awake.f k) (fun k => by rw [clusterlockslaw23_ChannelActs.j0, if_pos rfl]) awake_al (Al.val fun k => rfl)
theorem acts_main {l : List (List Int)} {p : List Int} (hl : Ok l) (hp : p.length ≤ 100000) (i a b : Int) : Al (fun k => clusterlockslaw23_ChannelActs.j0 k l p i a b false) true := by
  refine Al.succB (g := fun k => channel_Send.f k l p) (fun k => by rw [clusterlockslaw23_ChannelActs.j0, if_neg (by decide)]) (send_al hl hp) ?_
  refine Al.bindE (fun k => rfl) (rsend_al hl hp) ?_
  refine Al.bindE (fun k => rfl) (deliver_al hl i) ?_
  refine Al.bindE (fun k => rfl) (rdeliver_al hl i) ?_
  refine Al.bindE (fun k => rfl) (lose_al hl i) ?_
  refine Al.bindE (fun k => rfl) (rlose_al hl i) ?_
  refine Al.bindE (fun k => rfl) (double_al hl i) ?_
  refine Al.bindE (fun k => rfl) (rdouble_al hl i) ?_
  refine Al.bindE (fun k => rfl) (spoil_al hl i a b) ?_
  refine Al.bindE (fun k => rfl) (rspoil_al hl i a b) ?_
  refine Al.succB (g := fun k => clusterlockslaw23_awake.f k) (fun k => by rw [if_pos rfl, if_pos rfl, if_pos rfl, if_pos rfl, beq_self_eq_true, clusterlockslaw23_ChannelActs.j1]) awake_al ?_
  refine Al.bindE (g := fun k => clusterlocksref23_Valid.f k l) (fun k => by rw [if_pos rfl, if_pos rfl, valid_eq, Option.bind_some]) (rvalid_al l) ?_
  refine Al.bindE (g := fun k => clusterlocksref23_Same.f k (snd l p).1 (snd l p).1) (fun k => by rw [beq_self_eq_true, if_pos rfl]) (same_al (snd_len hl.1) rfl) ?_
  refine Al.bindE (g := fun k => clusterlocksref23_Same.f k (dlv l i).2.1 (dlv l i).2.1) (fun k => by rw [if_pos rfl, if_pos rfl]) (same_al (dlv_len hl.1 i) rfl) ?_
  refine Al.bindE (g := fun k => clusterlocksref23_Same.f k (dlv l i).2.1 (dlv l i).2.1) (fun k => by rw [if_pos rfl]) (same_al (dlv_len hl.1 i) rfl) ?_
  refine Al.bindE (g := fun k => clusterlocksref23_Same.f k (dbl l i).1 (dbl l i).1) (fun k => by rw [if_pos rfl]) (same_al (dbl_len hl.1 i) rfl) ?_
  exact Al.bindE (g := fun k => clusterlocksref23_Same.f k (spl l i a b).1 (spl l i a b).1) (fun k => by rw [if_pos rfl]) (same_al (spl_len hl.1 i a b) rfl) (Al.val fun k => rfl)
theorem ChannelActs : clusterlockslaw23_ChannelActs.PureX := by
  intro x0 x1 x2 x3 x4 w0 s0 w1 s1 w2 w3 w4
  refine Al.ex (r := true) ?_
  obtain ⟨b, hb, hs⟩ := short_al x0
  refine Al.bindE (fun k => rfl) hb ?_
  cases b with
  | false => exact Al.congr (acts_awake x0 x1 x2 x3 x4) (fun k => by rw [if_neg (by decide)])
  | true =>
    obtain ⟨h1, h2⟩ := hs rfl
    by_cases h : (x1.length : Int) > 10000
    · exact Al.congr (acts_awake x0 x1 x2 x3 x4) (fun k => by rw [if_pos rfl, decide_eq_true h])
    · exact Al.congr (acts_main (l := x0) (p := x1) ⟨by omega, fun y hy => by have := h2 y hy; omega⟩ (by omega) x2 x3 x4) (fun k => by rw [if_pos rfl, decide_eq_false h])
end Go.Proofs.Ytnhdppfmdhdmdaa.Pure

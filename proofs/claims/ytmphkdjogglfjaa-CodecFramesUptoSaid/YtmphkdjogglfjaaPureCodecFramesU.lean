/- For every payload and every tail codec.Frame returns what the reference returns (ErrTooLong for more than MaxFrame bytes), and codec.Unframe reads the payload back, whatever follows the frame; the arguments hold together at most 1048576 values. -/
import Derived.Test.YtmphkdjogglfjaaPg
import Derived.Test.YtmphkdjogglfjaaYQCodecFramesU
namespace Go.Proofs.Ytmphkdjogglfjaa.Pure
open Go.RowKit Go.Proofs.Ytmphkdjogglfjaa.Y Go.Proofs.Ytmphkdjogglfjaa.Pl Go.Proofs.YtmphkdjogglfjaaW.PrintWords
theorem CodecFramesU : clusterlockslaw01_CodecFrames.PureXU := by
  intro l t hw hn hwt ht
  have hl := by_of_wf hw.2
  have hbt := by_of_wf hwt.2
  have hn' : l.length ≤ 1048576 := by omega
  have ht' : t.length ≤ 1048576 := by omega
  clear hn ht
  refine Al.ex (r := true) ?_
  have hj : ∀ {G : Nat → Option Bool}, Al (fun k => G (k + 1)) true → Al G true := by
    rintro G ⟨K, hK⟩
    refine ⟨K + 1, fun k hk => ?_⟩
    obtain ⟨k, rfl⟩ : ∃ m, k = m + 1 := ⟨k - 1, by omega⟩
    exact hK k (by omega)
  by_cases h : l.length ≤ 4096
  · have hf := fr_len l
    have hq := enc_len 10 (l.length : Int)
    refine Al.bindE (fun k => rfl) (frame_al h) ?_
    refine Al.bindE (fun k => rfl) (rframe_al h) ?_
    refine Al.bindE (fun k => rfl) awake_al ?_
    simp only [if_true]
    refine Al.bindE (r := true) (g := fun k => bytes_Equal.f (fr l) (fr l)) (fun k => rfl) (Al.val fun k => by unfold bytes_Equal.f; simp) ?_
    refine hj ?_
    simp only [clusterlockslaw01_CodecFrames.j0]
    refine Al.bindE (r := (l, ((fr l).length : Int), 0)) (g := fun k => codec_Unframe.f k (fr l ++ t)) (f := fun k b => if b.2.2 = 0 then (if b.2.1 = ((fr l).length : Int) then ((bytes_Equal.f b.1 l).bind fun t365 => (some t365)) else (some false)) else (some false)) (fun k => ?_) ?_ (Al.val fun k => ?_)
    · simp only [Bool.not_true, Bool.false_eq_true, if_false, if_true, Option.bind_some, List.nil_append, List.length_nil, Nat.zero_add]
      rw [if_pos (by omega), if_pos (by omega)]
    · rw [← unf_fr h hl t]
      exact unframe_al ((fr_by hl).app hbt) (by rw [List.length_append]; omega)
    · unfold bytes_Equal.f
      simp
  · refine Al.bindE (fun k => rfl) (frame_long h) ?_
    refine Al.bindE (fun k => rfl) (rframe_long h) ?_
    refine Al.bindE (fun k => rfl) awake_al ?_
    simp only [if_true]
    refine Al.bindE (r := true) (g := fun k => bytes_Equal.f [] []) (fun k => rfl) (Al.val fun k => by unfold bytes_Equal.f; simp) ?_
    refine hj ?_
    simp only [clusterlockslaw01_CodecFrames.j0]
    refine Al.val fun k => ?_
    simp
    omega
end Go.Proofs.Ytmphkdjogglfjaa.Pure

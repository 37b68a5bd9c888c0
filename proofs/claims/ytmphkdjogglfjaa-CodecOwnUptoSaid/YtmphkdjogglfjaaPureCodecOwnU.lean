/- The functions of package codec, called with a part of a slice, write nothing behind it and leave the slice as it was; the arguments hold together at most 1048576 values and letters. -/
import Derived.Test.YtmphkdjogglfjaaPg
import Derived.Test.YtmphkdjogglfjaaYQCodecOwnU
namespace Go.Proofs.Ytmphkdjogglfjaa.Pure
open Go.RowKit Go.Proofs.Ytmphkdjogglfjaa.Y Go.Proofs.Ytmphkdjogglfjaa.Pl Go.Proofs.YtmphkdjogglfjaaW.PrintWords
theorem frame_any (l : List Int) : ∃ r, Al (fun k => codec_Frame.f k l) r := by
  by_cases h : l.length ≤ 4096
  · exact ⟨_, frame_al h⟩
  · exact ⟨_, frame_long h⟩
theorem CodecOwnU : clusterlockslaw01_CodecOwn.PureXU := by
  intro l v s hw hn hv hs0 hs
  have hl := by_of_wf hw.2
  have hn' : l.length ≤ 1048576 := by omega
  clear hn hs0
  have hv2 : 0 ≤ v ∧ v < 18446744073709551616 := by
    have h1 : IntKind.u64.min ≤ v ∧ v ≤ IntKind.u64.max := by simpa [Lit.wf] using hv
    have e1 : IntKind.u64.min = 0 := by decide
    have e2 : IntKind.u64.max = 18446744073709551615 := by decide
    omega
  have hq := enc_len 10 (s.size : Int)
  have e1 : IntKind.u64.wrap ((s.size : Int)) = s.size := u64w_id (by omega) (by omega)
  have p1 : Al (fun k => codec_PutText.f k l s) (l ++ enc 10 (s.size : Int) ++ bytesOf s) := by
    refine Al.bindE (fun k => by unfold codec_PutText.f; rw [e1]) (putuint l (by omega) (s.size : Int) (by omega) (by omega)) (Al.val fun k => ?_)
    rw [if_pos (by rw [List.length_append]; omega)]
  obtain ⟨fr', hfr⟩ := frame_any l
  refine Al.ex (r := true) ?_
  refine Al.congr (g := fun k => (codec_PutUint.f k l v).bind fun _ => (codec_PutText.f k l s).bind fun _ => (codec_Uint.f k l).bind fun _ => (codec_Text.f k l).bind fun _ => (codec_Frame.f k l).bind fun _ => (codec_Unframe.f k l).bind fun _ => (codec_Checksum.f k l).bind fun _ => (clusterlockslaw01_awake.f k).bind fun aw => if aw = true then some true else some false) ?_ (fun k => ?_)
  rotate_left
  · unfold clusterlockslaw01_CodecOwn.f
    simp only [Option.bind_some, List.nil_append, List.length_nil, Nat.zero_add, Int.toNat_natCast, List.take_left]
    rw [if_pos (by omega), if_pos (by simp; omega), if_pos (by omega), if_pos (by simp; omega)]
    simp only [if_pos (show l.length < 140737488355328 by omega), if_pos (show l.length + ([7, 7, 7, 7] : List Int).length < 140737488355328 by simp; omega)]
    have : bytes_Equal.f (l ++ [7, 7, 7, 7]) (l ++ [7, 7, 7, 7]) = some true := by unfold bytes_Equal.f; simp
    rw [this]
    rfl
  · refine Al.bindE (fun k => rfl) (putuint l (by omega) v hv2.1 hv2.2) ?_
    refine Al.bindE (fun k => rfl) p1 ?_
    refine Al.bindE (fun k => rfl) (codec_uint hl) ?_
    refine Al.bindE (fun k => rfl) (text_al hl (by omega)) ?_
    refine Al.bindE (fun k => rfl) hfr ?_
    refine Al.bindE (fun k => rfl) (unframe_al hl (by omega)) ?_
    refine Al.bindE (fun k => rfl) (sum_al l (by omega)) ?_
    refine Al.bindE (fun k => rfl) awake_al ?_
    exact Al.val fun k => by simp
end Go.Proofs.Ytmphkdjogglfjaa.Pure

/- For every byte slice: what codec.Uint reads without an error, codec.PutUint writes again byte for byte, it has at least one and at most all bytes of the slice, and with an error number and length are zero; no condition. -/
import Derived.Test.YtmphkdjogglfjaaPo
import Derived.Test.YtmphkdjogglfjaaY5
namespace Go.Proofs.Ytmphkdjogglfjaa.Pure
open Go.RowKit Go.Proofs.Ytmphkdjogglfjaa.Y Go.Proofs.Ytmphkdjogglfjaa.Pl Go.Proofs.YtmphkdjogglfjaaW.PrintWords
theorem CodecShort : clusterlockslaw01_CodecShort.Pure := by
  intro l _ hn hw
  have hl := by_of_wf hw
  refine Al.ex (r := true) ?_
  refine Al.bindE (fun k => rfl) (codec_uint hl) ?_
  by_cases h : (uint l).2.2 = 0
  · obtain ⟨v, v0, v1, e, e2, v5⟩ := uint_ok hl h
    have hp : 0 < (enc 10 v).length := enc_pos 9 v
    rw [e]
    simp only [if_true]
    refine Al.bindE (fun k => rfl) awake_al ?_
    simp only [if_true]
    refine Al.bindE (fun k => by rw [if_pos (by omega), if_pos (by omega)]) (putuint [] (by simp) v v0 v1) ?_
    refine Al.val fun k => ?_
    rw [if_pos (by omega)]
    unfold bytes_Equal.f
    simp [e2]
  · obtain ⟨e, he, _⟩ := uint_err l h
    have h' : e ≠ 0 := by rw [he] at h; exact h
    rw [he]
    refine Al.bindE (fun k => by rw [if_neg h']) awake_al (Al.val fun k => ?_)
    simp
end Go.Proofs.Ytmphkdjogglfjaa.Pure

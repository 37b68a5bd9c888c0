/- For every byte slice codec.Uint returns what the reference's Uint returns: number, bytes read and error, and the examples of the chapter hold; no condition. -/
import Derived.Test.YtmphkdjogglfjaaPl
namespace Go.Proofs.Ytmphkdjogglfjaa.Pure
open Go.RowKit Go.Proofs.Ytmphkdjogglfjaa.Y Go.Proofs.Ytmphkdjogglfjaa.Pl
theorem CodecReads : clusterlockslaw01_CodecReads.Pure := by
  intro l _ _ hw
  have hl := by_of_wf hw
  refine Al.ex (r := true) ?_
  refine Al.congr (g := fun k => (codec_Uint.f k l).bind fun a => (clusterlocksref01_Uint.f k l).bind fun b => (clusterlockslaw01_awake.f k).bind fun t => _) ?_ (fun k => rfl)
  refine Al.bind (codec_uint hl) (Al.bind (ref_uint hl) (Al.bind awake_al ?_))
  refine Al.congr (Al.const true) (fun k => ?_)
  simp
end Go.Proofs.Ytmphkdjogglfjaa.Pure

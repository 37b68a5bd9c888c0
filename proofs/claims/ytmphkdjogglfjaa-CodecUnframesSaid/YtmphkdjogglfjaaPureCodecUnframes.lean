/- For every byte slice codec.Unframe returns what the reference's Unframe returns: payload, bytes read and error; no condition. -/
import Derived.Test.YtmphkdjogglfjaaPo
namespace Go.Proofs.Ytmphkdjogglfjaa.Pure
open Go.RowKit Go.Proofs.Ytmphkdjogglfjaa.Y Go.Proofs.Ytmphkdjogglfjaa.Pl Go.Proofs.YtmphkdjogglfjaaW.PrintWords
theorem CodecUnframes : clusterlockslaw01_CodecUnframes.Pure := by
  intro l _ hn hw
  have hl := by_of_wf hw
  refine Al.ex (r := true) ?_
  refine Al.bindE (fun k => rfl) (unframe_al hl (by omega)) ?_
  refine Al.bindE (fun k => rfl) (runframe_al hl (by omega)) ?_
  refine Al.bindE (fun k => rfl) awake_al (Al.val fun k => ?_)
  unfold bytes_Equal.f
  simp
end Go.Proofs.Ytmphkdjogglfjaa.Pure

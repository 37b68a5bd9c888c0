/- For every byte slice codec.Text returns what the reference's Text returns: string, bytes read and error; no condition. -/
import Derived.Test.YtmphkdjogglfjaaPo
namespace Go.Proofs.Ytmphkdjogglfjaa.Pure
open Go.RowKit Go.Proofs.Ytmphkdjogglfjaa.Y Go.Proofs.Ytmphkdjogglfjaa.Pl Go.Proofs.YtmphkdjogglfjaaW.PrintWords
theorem CodecTextReads : clusterlockslaw01_CodecTextReads.Pure := by
  intro l _ hn hw
  have hl := by_of_wf hw
  refine Al.ex (r := true) ?_
  refine Al.bindE (fun k => rfl) (text_al hl (by omega)) ?_
  refine Al.bindE (fun k => rfl) (rtext_al hl (by omega)) ?_
  refine Al.bindE (fun k => rfl) awake_al (Al.val fun k => ?_)
  simp
end Go.Proofs.Ytmphkdjogglfjaa.Pure

/-
  No cell of these rows narrows 'for every input' (looked for: loops, veiled, ifaces, maps, wideKeys, modest, calm, conditions, laid).
  DERIVED. THE GIVEN ROWS OF THIS SEAT. 12 by the template 'for every input the law returns true; each argument reads behind the call as it read before'; 0 by the template 'total and deterministic' (their statements: YtmphkdjogglfjaaTotals.lean).
  GIVEN WITH THE SEED: the statements are not yours to turn. If you find one false, say at which input.
  Laid BY PROGRAM, IN A SANDBOX (cutbox-rows.mjs): the forced cells as the released guide's own fill.sh prints them over the translation d66cfee07cff12a2… (all of the seat's roots in one cut). By AI agents, Wed Nov 11 2026. No macro, syntax, notation, axiom, sorry.
-/
import Derived.Test.YtmphkdjogglfjaaChecked
import GoSem.Claim
import GoSem.ClaimJoined
import GoSem.ClaimMapViews
import Derived.JoinedTies
import Derived.KernelRfl
namespace Go.Proofs.Ytmphkdjogglfjaa
/- THE CELL 'sum', in the pinned program and in every row, IS THE sha256 OF THE DUMP (.gsa) THAT YtmphkdjogglfjaaProg.lean LOADS. Nothing in Lean hashes anything: it is a label: what it is worth is what the hold of that sum in a sandbox is worth. -/
noncomputable def Try.pinned : Pinned := { name := "ytmphkdjogglfjaa", sum := "d66cfee07cff12a260a3c5a2766019ccd71c85e64181fc943ca39cf11cb6773a", checked := Try.checked }
namespace Rows
def none {H : Type} : Left H := { results := [], args := [] }

/-- 'clusterlockslaw01.CodecReads': WHATEVER THE INPUT: true; the input reads as it did. -/
def codecReadsSpec : ChangeSpec := { name := "codecReads", fn := fun _ => fun
  | [d] => { results := [.lit (.bool true)], args := [d] }
  | _ => none }
def codecReadsRow : OpenClaim := { program := "ytmphkdjogglfjaa", sum := "d66cfee07cff12a260a3c5a2766019ccd71c85e64181fc943ca39cf11cb6773a", func := "clusterlocks/clusterlockslaw01.CodecReads", spec := "codecReads", apart := false }
def CodecReadsSaid : Prop := codecReadsRow.holds Try.pinned (OpenSpec.ofChange codecReadsSpec)

/-- ITS FALSE NEIGHBOUR: 'it returns false'. Refute it at one input. -/
def codecReadsWrong : ChangeSpec := { name := "codecReads", fn := fun _ => fun
  | [d] => { results := [.lit (.bool false)], args := [d] }
  | _ => none }
def CodecReadsWrongFalsely : Prop := codecReadsRow.holds Try.pinned (OpenSpec.ofChange codecReadsWrong)

/-- 'clusterlockslaw01.CodecSums': WHATEVER THE INPUT: true; the input reads as it did. -/
def codecSumsSpec : ChangeSpec := { name := "codecSums", fn := fun _ => fun
  | [d] => { results := [.lit (.bool true)], args := [d] }
  | _ => none }
def codecSumsRow : OpenClaim := { program := "ytmphkdjogglfjaa", sum := "d66cfee07cff12a260a3c5a2766019ccd71c85e64181fc943ca39cf11cb6773a", func := "clusterlocks/clusterlockslaw01.CodecSums", spec := "codecSums", apart := false }
def CodecSumsSaid : Prop := codecSumsRow.holds Try.pinned (OpenSpec.ofChange codecSumsSpec)

/-- ITS FALSE NEIGHBOUR: 'it returns false'. Refute it at one input. -/
def codecSumsWrong : ChangeSpec := { name := "codecSums", fn := fun _ => fun
  | [d] => { results := [.lit (.bool false)], args := [d] }
  | _ => none }
def CodecSumsWrongFalsely : Prop := codecSumsRow.holds Try.pinned (OpenSpec.ofChange codecSumsWrong)

/-- 'clusterlockslaw01.CodecBursts': WHATEVER THE INPUT: true; the input reads as it did. -/
def codecBurstsSpec : ChangeSpec := { name := "codecBursts", fn := fun _ => fun
  | [d1, d2, d3] => { results := [.lit (.bool true)], args := [d1, d2, d3] }
  | _ => none }
def codecBurstsRow : OpenClaim := { program := "ytmphkdjogglfjaa", sum := "d66cfee07cff12a260a3c5a2766019ccd71c85e64181fc943ca39cf11cb6773a", func := "clusterlocks/clusterlockslaw01.CodecBursts", spec := "codecBursts", apart := false }
def CodecBurstsSaid : Prop := codecBurstsRow.holds Try.pinned (OpenSpec.ofChange codecBurstsSpec)

/-- ITS FALSE NEIGHBOUR: 'it returns false'. Refute it at one input. -/
def codecBurstsWrong : ChangeSpec := { name := "codecBursts", fn := fun _ => fun
  | [d1, d2, d3] => { results := [.lit (.bool false)], args := [d1, d2, d3] }
  | _ => none }
def CodecBurstsWrongFalsely : Prop := codecBurstsRow.holds Try.pinned (OpenSpec.ofChange codecBurstsWrong)

/-- 'clusterlockslaw01.CodecUints': WHATEVER THE INPUT: true; the input reads as it did. -/
def codecUintsSpec : ChangeSpec := { name := "codecUints", fn := fun _ => fun
  | [d1, d2, d3] => { results := [.lit (.bool true)], args := [d1, d2, d3] }
  | _ => none }
def codecUintsRow : OpenClaim := { program := "ytmphkdjogglfjaa", sum := "d66cfee07cff12a260a3c5a2766019ccd71c85e64181fc943ca39cf11cb6773a", func := "clusterlocks/clusterlockslaw01.CodecUints", spec := "codecUints", apart := false }
def CodecUintsSaid : Prop := codecUintsRow.holds Try.pinned (OpenSpec.ofChange codecUintsSpec)

/-- ITS FALSE NEIGHBOUR: 'it returns false'. Refute it at one input. -/
def codecUintsWrong : ChangeSpec := { name := "codecUints", fn := fun _ => fun
  | [d1, d2, d3] => { results := [.lit (.bool false)], args := [d1, d2, d3] }
  | _ => none }
def CodecUintsWrongFalsely : Prop := codecUintsRow.holds Try.pinned (OpenSpec.ofChange codecUintsWrong)

/-- 'clusterlockslaw01.CodecShort': WHATEVER THE INPUT: true; the input reads as it did. -/
def codecShortSpec : ChangeSpec := { name := "codecShort", fn := fun _ => fun
  | [d] => { results := [.lit (.bool true)], args := [d] }
  | _ => none }
def codecShortRow : OpenClaim := { program := "ytmphkdjogglfjaa", sum := "d66cfee07cff12a260a3c5a2766019ccd71c85e64181fc943ca39cf11cb6773a", func := "clusterlocks/clusterlockslaw01.CodecShort", spec := "codecShort", apart := false }
def CodecShortSaid : Prop := codecShortRow.holds Try.pinned (OpenSpec.ofChange codecShortSpec)

/-- ITS FALSE NEIGHBOUR: 'it returns false'. Refute it at one input. -/
def codecShortWrong : ChangeSpec := { name := "codecShort", fn := fun _ => fun
  | [d] => { results := [.lit (.bool false)], args := [d] }
  | _ => none }
def CodecShortWrongFalsely : Prop := codecShortRow.holds Try.pinned (OpenSpec.ofChange codecShortWrong)

/-- 'clusterlockslaw01.CodecTextReads': WHATEVER THE INPUT: true; the input reads as it did. -/
def codecTextReadsSpec : ChangeSpec := { name := "codecTextReads", fn := fun _ => fun
  | [d] => { results := [.lit (.bool true)], args := [d] }
  | _ => none }
def codecTextReadsRow : OpenClaim := { program := "ytmphkdjogglfjaa", sum := "d66cfee07cff12a260a3c5a2766019ccd71c85e64181fc943ca39cf11cb6773a", func := "clusterlocks/clusterlockslaw01.CodecTextReads", spec := "codecTextReads", apart := false }
def CodecTextReadsSaid : Prop := codecTextReadsRow.holds Try.pinned (OpenSpec.ofChange codecTextReadsSpec)

/-- ITS FALSE NEIGHBOUR: 'it returns false'. Refute it at one input. -/
def codecTextReadsWrong : ChangeSpec := { name := "codecTextReads", fn := fun _ => fun
  | [d] => { results := [.lit (.bool false)], args := [d] }
  | _ => none }
def CodecTextReadsWrongFalsely : Prop := codecTextReadsRow.holds Try.pinned (OpenSpec.ofChange codecTextReadsWrong)

/-- 'clusterlockslaw01.CodecTexts': WHATEVER THE INPUT: true; the input reads as it did. -/
def codecTextsSpec : ChangeSpec := { name := "codecTexts", fn := fun _ => fun
  | [d1, d2, d3] => { results := [.lit (.bool true)], args := [d1, d2, d3] }
  | _ => none }
def codecTextsRow : OpenClaim := { program := "ytmphkdjogglfjaa", sum := "d66cfee07cff12a260a3c5a2766019ccd71c85e64181fc943ca39cf11cb6773a", func := "clusterlocks/clusterlockslaw01.CodecTexts", spec := "codecTexts", apart := false }
def CodecTextsSaid : Prop := codecTextsRow.holds Try.pinned (OpenSpec.ofChange codecTextsSpec)

/-- ITS FALSE NEIGHBOUR: 'it returns false'. Refute it at one input. -/
def codecTextsWrong : ChangeSpec := { name := "codecTexts", fn := fun _ => fun
  | [d1, d2, d3] => { results := [.lit (.bool false)], args := [d1, d2, d3] }
  | _ => none }
def CodecTextsWrongFalsely : Prop := codecTextsRow.holds Try.pinned (OpenSpec.ofChange codecTextsWrong)

/-- 'clusterlockslaw01.CodecPrefixes': WHATEVER THE INPUT: true; the input reads as it did. -/
def codecPrefixesSpec : ChangeSpec := { name := "codecPrefixes", fn := fun _ => fun
  | [d1, d2] => { results := [.lit (.bool true)], args := [d1, d2] }
  | _ => none }
def codecPrefixesRow : OpenClaim := { program := "ytmphkdjogglfjaa", sum := "d66cfee07cff12a260a3c5a2766019ccd71c85e64181fc943ca39cf11cb6773a", func := "clusterlocks/clusterlockslaw01.CodecPrefixes", spec := "codecPrefixes", apart := false }
def CodecPrefixesSaid : Prop := codecPrefixesRow.holds Try.pinned (OpenSpec.ofChange codecPrefixesSpec)

/-- ITS FALSE NEIGHBOUR: 'it returns false'. Refute it at one input. -/
def codecPrefixesWrong : ChangeSpec := { name := "codecPrefixes", fn := fun _ => fun
  | [d1, d2] => { results := [.lit (.bool false)], args := [d1, d2] }
  | _ => none }
def CodecPrefixesWrongFalsely : Prop := codecPrefixesRow.holds Try.pinned (OpenSpec.ofChange codecPrefixesWrong)

/-- 'clusterlockslaw01.CodecFlips': WHATEVER THE INPUT: true; the input reads as it did. -/
def codecFlipsSpec : ChangeSpec := { name := "codecFlips", fn := fun _ => fun
  | [d1, d2, d3] => { results := [.lit (.bool true)], args := [d1, d2, d3] }
  | _ => none }
def codecFlipsRow : OpenClaim := { program := "ytmphkdjogglfjaa", sum := "d66cfee07cff12a260a3c5a2766019ccd71c85e64181fc943ca39cf11cb6773a", func := "clusterlocks/clusterlockslaw01.CodecFlips", spec := "codecFlips", apart := false }
def CodecFlipsSaid : Prop := codecFlipsRow.holds Try.pinned (OpenSpec.ofChange codecFlipsSpec)

/-- ITS FALSE NEIGHBOUR: 'it returns false'. Refute it at one input. -/
def codecFlipsWrong : ChangeSpec := { name := "codecFlips", fn := fun _ => fun
  | [d1, d2, d3] => { results := [.lit (.bool false)], args := [d1, d2, d3] }
  | _ => none }
def CodecFlipsWrongFalsely : Prop := codecFlipsRow.holds Try.pinned (OpenSpec.ofChange codecFlipsWrong)

/-- 'clusterlockslaw01.CodecFrames': WHATEVER THE INPUT: true; the input reads as it did. -/
def codecFramesSpec : ChangeSpec := { name := "codecFrames", fn := fun _ => fun
  | [d1, d2] => { results := [.lit (.bool true)], args := [d1, d2] }
  | _ => none }
def codecFramesRow : OpenClaim := { program := "ytmphkdjogglfjaa", sum := "d66cfee07cff12a260a3c5a2766019ccd71c85e64181fc943ca39cf11cb6773a", func := "clusterlocks/clusterlockslaw01.CodecFrames", spec := "codecFrames", apart := false }
def CodecFramesSaid : Prop := codecFramesRow.holds Try.pinned (OpenSpec.ofChange codecFramesSpec)

/-- ITS FALSE NEIGHBOUR: 'it returns false'. Refute it at one input. -/
def codecFramesWrong : ChangeSpec := { name := "codecFrames", fn := fun _ => fun
  | [d1, d2] => { results := [.lit (.bool false)], args := [d1, d2] }
  | _ => none }
def CodecFramesWrongFalsely : Prop := codecFramesRow.holds Try.pinned (OpenSpec.ofChange codecFramesWrong)

/-- 'clusterlockslaw01.CodecUnframes': WHATEVER THE INPUT: true; the input reads as it did. -/
def codecUnframesSpec : ChangeSpec := { name := "codecUnframes", fn := fun _ => fun
  | [d] => { results := [.lit (.bool true)], args := [d] }
  | _ => none }
def codecUnframesRow : OpenClaim := { program := "ytmphkdjogglfjaa", sum := "d66cfee07cff12a260a3c5a2766019ccd71c85e64181fc943ca39cf11cb6773a", func := "clusterlocks/clusterlockslaw01.CodecUnframes", spec := "codecUnframes", apart := false }
def CodecUnframesSaid : Prop := codecUnframesRow.holds Try.pinned (OpenSpec.ofChange codecUnframesSpec)

/-- ITS FALSE NEIGHBOUR: 'it returns false'. Refute it at one input. -/
def codecUnframesWrong : ChangeSpec := { name := "codecUnframes", fn := fun _ => fun
  | [d] => { results := [.lit (.bool false)], args := [d] }
  | _ => none }
def CodecUnframesWrongFalsely : Prop := codecUnframesRow.holds Try.pinned (OpenSpec.ofChange codecUnframesWrong)

/-- 'clusterlockslaw01.CodecOwn': WHATEVER THE INPUT: true; the input reads as it did. -/
def codecOwnSpec : ChangeSpec := { name := "codecOwn", fn := fun _ => fun
  | [d1, d2, d3] => { results := [.lit (.bool true)], args := [d1, d2, d3] }
  | _ => none }
def codecOwnRow : OpenClaim := { program := "ytmphkdjogglfjaa", sum := "d66cfee07cff12a260a3c5a2766019ccd71c85e64181fc943ca39cf11cb6773a", func := "clusterlocks/clusterlockslaw01.CodecOwn", spec := "codecOwn", apart := false }
def CodecOwnSaid : Prop := codecOwnRow.holds Try.pinned (OpenSpec.ofChange codecOwnSpec)

/-- ITS FALSE NEIGHBOUR: 'it returns false'. Refute it at one input. -/
def codecOwnWrong : ChangeSpec := { name := "codecOwn", fn := fun _ => fun
  | [d1, d2, d3] => { results := [.lit (.bool false)], args := [d1, d2, d3] }
  | _ => none }
def CodecOwnWrongFalsely : Prop := codecOwnRow.holds Try.pinned (OpenSpec.ofChange codecOwnWrong)

/- THE SECOND FORM. 'bulk': how many values and letters a reading holds, each counted each time it is reached (what is shared counts as often as it is met; a slice's spare places count too). A statement '..UptoSaid' is the law's where the arguments, and the package variables that the reading takes, are together of bulk at most 1048576: NARROWER than '..Said'. Prove '..Said' where nothing that the law and all that it calls make is longer than what came in: it says more and counts as full. Else prove '..UptoSaid'. A law counts once. -/
mutual
def uptoBulk {H : Type} : DataW H → Nat
  | .lit (.string bytes) => bytes.length + 1
  | .lit _ => 1
  | .nil => 1
  | .ptr d => uptoBulk d + 1
  | .slice elems spare => uptoBulkAll elems + uptoBulkAll spare + 1
  | .agg parts => uptoBulkAll parts + 1
  | .iface _ d => uptoBulk d + 1
  | .map entries => uptoBulkEntries entries + 1
  | .held _ => 1
def uptoBulkAll {H : Type} : List (DataW H) → Nat
  | [] => 0
  | d :: r => uptoBulk d + uptoBulkAll r
def uptoBulkEntries {H : Type} : List (Lit × DataW H) → Nat
  | [] => 0
  | x :: r => uptoBulkEntry x + uptoBulkEntries r
def uptoBulkEntry {H : Type} : Lit × DataW H → Nat
  | (.string bytes, d) => bytes.length + uptoBulk d + 1
  | (_, d) => uptoBulk d + 1
 end
def uptoSmall : (H : Type) → List (DataW H) → Bool := fun _ ds => decide (uptoBulkAll ds ≤ 1048576)
def OpenSpec.upto (s : _root_.Go.ChangeSpec) : _root_.Go.OpenSpec := { _root_.Go.OpenSpec.ofChange s with cond := some uptoSmall }

/-- 'clusterlockslaw01.CodecReads', WHERE WHAT IT READS IS OF BULK AT MOST 1048576: true; the input reads as it did. -/
def codecReadsUptoRow : OpenClaim := { program := "ytmphkdjogglfjaa", sum := "d66cfee07cff12a260a3c5a2766019ccd71c85e64181fc943ca39cf11cb6773a", func := "clusterlocks/clusterlockslaw01.CodecReads", spec := "codecReads", apart := false, narrowed := true }
def CodecReadsUptoSaid : Prop := codecReadsUptoRow.holds Try.pinned (OpenSpec.upto codecReadsSpec)

/-- 'clusterlockslaw01.CodecSums', WHERE WHAT IT READS IS OF BULK AT MOST 1048576: true; the input reads as it did. -/
def codecSumsUptoRow : OpenClaim := { program := "ytmphkdjogglfjaa", sum := "d66cfee07cff12a260a3c5a2766019ccd71c85e64181fc943ca39cf11cb6773a", func := "clusterlocks/clusterlockslaw01.CodecSums", spec := "codecSums", apart := false, narrowed := true }
def CodecSumsUptoSaid : Prop := codecSumsUptoRow.holds Try.pinned (OpenSpec.upto codecSumsSpec)

/-- 'clusterlockslaw01.CodecBursts', WHERE WHAT IT READS IS OF BULK AT MOST 1048576: true; the input reads as it did. -/
def codecBurstsUptoRow : OpenClaim := { program := "ytmphkdjogglfjaa", sum := "d66cfee07cff12a260a3c5a2766019ccd71c85e64181fc943ca39cf11cb6773a", func := "clusterlocks/clusterlockslaw01.CodecBursts", spec := "codecBursts", apart := false, narrowed := true }
def CodecBurstsUptoSaid : Prop := codecBurstsUptoRow.holds Try.pinned (OpenSpec.upto codecBurstsSpec)

/-- 'clusterlockslaw01.CodecUints', WHERE WHAT IT READS IS OF BULK AT MOST 1048576: true; the input reads as it did. -/
def codecUintsUptoRow : OpenClaim := { program := "ytmphkdjogglfjaa", sum := "d66cfee07cff12a260a3c5a2766019ccd71c85e64181fc943ca39cf11cb6773a", func := "clusterlocks/clusterlockslaw01.CodecUints", spec := "codecUints", apart := false, narrowed := true }
def CodecUintsUptoSaid : Prop := codecUintsUptoRow.holds Try.pinned (OpenSpec.upto codecUintsSpec)

/-- 'clusterlockslaw01.CodecShort', WHERE WHAT IT READS IS OF BULK AT MOST 1048576: true; the input reads as it did. -/
def codecShortUptoRow : OpenClaim := { program := "ytmphkdjogglfjaa", sum := "d66cfee07cff12a260a3c5a2766019ccd71c85e64181fc943ca39cf11cb6773a", func := "clusterlocks/clusterlockslaw01.CodecShort", spec := "codecShort", apart := false, narrowed := true }
def CodecShortUptoSaid : Prop := codecShortUptoRow.holds Try.pinned (OpenSpec.upto codecShortSpec)

/-- 'clusterlockslaw01.CodecTextReads', WHERE WHAT IT READS IS OF BULK AT MOST 1048576: true; the input reads as it did. -/
def codecTextReadsUptoRow : OpenClaim := { program := "ytmphkdjogglfjaa", sum := "d66cfee07cff12a260a3c5a2766019ccd71c85e64181fc943ca39cf11cb6773a", func := "clusterlocks/clusterlockslaw01.CodecTextReads", spec := "codecTextReads", apart := false, narrowed := true }
def CodecTextReadsUptoSaid : Prop := codecTextReadsUptoRow.holds Try.pinned (OpenSpec.upto codecTextReadsSpec)

/-- 'clusterlockslaw01.CodecTexts', WHERE WHAT IT READS IS OF BULK AT MOST 1048576: true; the input reads as it did. -/
def codecTextsUptoRow : OpenClaim := { program := "ytmphkdjogglfjaa", sum := "d66cfee07cff12a260a3c5a2766019ccd71c85e64181fc943ca39cf11cb6773a", func := "clusterlocks/clusterlockslaw01.CodecTexts", spec := "codecTexts", apart := false, narrowed := true }
def CodecTextsUptoSaid : Prop := codecTextsUptoRow.holds Try.pinned (OpenSpec.upto codecTextsSpec)

/-- 'clusterlockslaw01.CodecPrefixes', WHERE WHAT IT READS IS OF BULK AT MOST 1048576: true; the input reads as it did. -/
def codecPrefixesUptoRow : OpenClaim := { program := "ytmphkdjogglfjaa", sum := "d66cfee07cff12a260a3c5a2766019ccd71c85e64181fc943ca39cf11cb6773a", func := "clusterlocks/clusterlockslaw01.CodecPrefixes", spec := "codecPrefixes", apart := false, narrowed := true }
def CodecPrefixesUptoSaid : Prop := codecPrefixesUptoRow.holds Try.pinned (OpenSpec.upto codecPrefixesSpec)

/-- 'clusterlockslaw01.CodecFlips', WHERE WHAT IT READS IS OF BULK AT MOST 1048576: true; the input reads as it did. -/
def codecFlipsUptoRow : OpenClaim := { program := "ytmphkdjogglfjaa", sum := "d66cfee07cff12a260a3c5a2766019ccd71c85e64181fc943ca39cf11cb6773a", func := "clusterlocks/clusterlockslaw01.CodecFlips", spec := "codecFlips", apart := false, narrowed := true }
def CodecFlipsUptoSaid : Prop := codecFlipsUptoRow.holds Try.pinned (OpenSpec.upto codecFlipsSpec)

/-- 'clusterlockslaw01.CodecFrames', WHERE WHAT IT READS IS OF BULK AT MOST 1048576: true; the input reads as it did. -/
def codecFramesUptoRow : OpenClaim := { program := "ytmphkdjogglfjaa", sum := "d66cfee07cff12a260a3c5a2766019ccd71c85e64181fc943ca39cf11cb6773a", func := "clusterlocks/clusterlockslaw01.CodecFrames", spec := "codecFrames", apart := false, narrowed := true }
def CodecFramesUptoSaid : Prop := codecFramesUptoRow.holds Try.pinned (OpenSpec.upto codecFramesSpec)

/-- 'clusterlockslaw01.CodecUnframes', WHERE WHAT IT READS IS OF BULK AT MOST 1048576: true; the input reads as it did. -/
def codecUnframesUptoRow : OpenClaim := { program := "ytmphkdjogglfjaa", sum := "d66cfee07cff12a260a3c5a2766019ccd71c85e64181fc943ca39cf11cb6773a", func := "clusterlocks/clusterlockslaw01.CodecUnframes", spec := "codecUnframes", apart := false, narrowed := true }
def CodecUnframesUptoSaid : Prop := codecUnframesUptoRow.holds Try.pinned (OpenSpec.upto codecUnframesSpec)

/-- 'clusterlockslaw01.CodecOwn', WHERE WHAT IT READS IS OF BULK AT MOST 1048576: true; the input reads as it did. -/
def codecOwnUptoRow : OpenClaim := { program := "ytmphkdjogglfjaa", sum := "d66cfee07cff12a260a3c5a2766019ccd71c85e64181fc943ca39cf11cb6773a", func := "clusterlocks/clusterlockslaw01.CodecOwn", spec := "codecOwn", apart := false, narrowed := true }
def CodecOwnUptoSaid : Prop := codecOwnUptoRow.holds Try.pinned (OpenSpec.upto codecOwnSpec)

end Rows
end Go.Proofs.Ytmphkdjogglfjaa

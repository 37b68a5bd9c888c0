import Derived.Test.YtgomhoolipfkmaaPl
import Derived.Test.YtgomhoolipfkmaaY16
namespace Go.Proofs.Ytgomhoolipfkmaa.Pl
open Go.RowKit Go.Proofs.Ytgomhoolipfkmaa.Y Go.Proofs.Ytgomhoolipfkmaa.Pa Go.Proofs.YtgomhoolipfkmaaW.PrintWords Go.Proofs.YtgomhoolipfkmaaW.PrintLast Go.Proofs.YtgomhoolipfkmaaW.PrintMore
set_option linter.unusedVariables false
set_option linter.unusedSimpArgs false
def rest (a b c : Int) (l : List S28) : List S28 := l.filter (fun x => !line_Find.p a b c x)
theorem rest_len (a b c : Int) (l : List S28) : (rest a b c l).length ≤ l.length := List.length_filter_le _ _
theorem lremove (l : List S28) (hl : l.length < 2513169434916) (a b c : Int) : line_Remove.f l a b c = some (rest a b c l, decide ((rest a b c l).length < l.length)) := by
  unfold line_Remove.f
  rw [if_pos hl]
  rfl
end Go.Proofs.Ytgomhoolipfkmaa.Pl

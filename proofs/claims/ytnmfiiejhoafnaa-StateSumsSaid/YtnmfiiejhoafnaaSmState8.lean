/- Marks. -/
import Derived.Test.YtnmfiiejhoafnaaSmState7
import Derived.Test.YtnmfiiejhoafnaaSmRow5
set_option linter.unusedSimpArgs false
set_option linter.unusedVariables false
namespace Go.Proofs.Ytnmfiiejhoafnaa
namespace Ex
open Go Calm Go.RowKit
def insL {α : Type} (c : α → α → Int) (l : List α) (x : α) : List α := l.take (bef c l x).toNat ++ x :: l.drop (bef c l x).toNat
end Ex
end Go.Proofs.Ytnmfiiejhoafnaa

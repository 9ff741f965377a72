/- Marks. -/
import Derived.Test.YtnmfiiejhoafnaaGreatPvState7
import Derived.Test.YtnmfiiejhoafnaaGreatPvRow5
set_option linter.unusedSimpArgs false
set_option linter.unusedVariables false
namespace Go.Proofs.YtnmfiiejhoafnaaGreat
namespace Ex
open Go Calm Go.RowKit
def insL {α : Type} (c : α → α → Int) (l : List α) (x : α) : List α := l.take (bef c l x).toNat ++ x :: l.drop (bef c l x).toNat
end Ex
end Go.Proofs.YtnmfiiejhoafnaaGreat

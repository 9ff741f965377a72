/- Marks. -/
import Derived.Test.YtnmfiiejhoafnaaGreatLkState7
import Derived.Test.YtnmfiiejhoafnaaGreatLkRow5
set_option linter.unusedSimpArgs false
set_option linter.unusedVariables false
namespace Go.Proofs.YtnmfiiejhoafnaaGreat
namespace Ex
open Go Calm Go.RowKit
def insL {α : Type} (c : α → α → Int) (l : List α) (x : α) : List α := l.take (bef c l x).toNat ++ x :: l.drop (bef c l x).toNat
theorem cmpN_pos {a b : UInt64} : 0 < cmpN a b ↔ b < a := by
  unfold cmpN cmpI
  rw [UInt64.lt_iff_toNat_lt]
  (repeat' split) <;> omega
end Ex
end Go.Proofs.YtnmfiiejhoafnaaGreat

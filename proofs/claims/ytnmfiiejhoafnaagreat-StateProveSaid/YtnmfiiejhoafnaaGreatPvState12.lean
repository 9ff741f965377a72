/- The first state, made; what the reference holds for valid. -/
import Derived.Test.YtnmfiiejhoafnaaGreatPvState11
import Derived.Test.YtnmfiiejhoafnaaGreatPvSum
import Derived.Test.YtnmfiiejhoafnaaGreatPvGen
set_option linter.unusedSimpArgs false
set_option linter.unusedVariables false
namespace Go.Proofs.YtnmfiiejhoafnaaGreat
namespace Ex
open Go Calm Go.RowKit
theorem mem_getD {α : Type} [Inhabited α] {l : List α} {i : Nat} (h : i < l.length) : l.getD i default ∈ l := by
  rw [List.getD_eq_getElem?_getD, List.getElem?_eq_getElem h]; exact List.getElem_mem h
end Ex
end Go.Proofs.YtnmfiiejhoafnaaGreat

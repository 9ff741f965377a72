/- One-time keys: chains, signatures, public names; of the program and of the reference. -/
import Derived.Test.YtnmfiiejhoafnaaGreatPvHash3
import Derived.Test.YtnmfiiejhoafnaaGreatPvHsh
set_option linter.unusedSimpArgs false
set_option linter.unusedVariables false
namespace Go.Proofs.YtnmfiiejhoafnaaGreat
namespace Ex
open Go Calm Go.RowKit
def vals (f : Nat → UInt64) (n : Nat) : List UInt64 := (List.range n).map f
theorem flat_len (l : List UInt64) : (l.flatMap nmBytes).length = 8 * l.length := by
  induction l with
  | nil => rfl
  | cons a l ih => rw [List.flatMap_cons, List.length_append, nmBytes_len, ih, List.length_cons]; omega
theorem cast_own {α : Type} {T : El α} {lo : Nat} {l m : List α} {v : Value} {w : World} (e : l = m) (h : Holds (OwnS lo T l) v w) : Holds (OwnS lo T m) v w := by subst e; exact h
end Ex
end Go.Proofs.YtnmfiiejhoafnaaGreat

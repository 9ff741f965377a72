/- Changes of amounts: of the reference. -/
import Derived.Test.YtnmfiiejhoafnaaGreatPvState9
set_option linter.unusedSimpArgs false
set_option linter.unusedVariables false
namespace Go.Proofs.YtnmfiiejhoafnaaGreat
namespace Ex
open Go Calm Go.RowKit
theorem getL_amt {l : List GDelta} {c : GCell} (h : 0 ≤ fnd l c) : (l.getD (fnd l c).toNat default).amount = getL l c := by unfold getL; rw [if_pos h]
end Ex
end Go.Proofs.YtnmfiiejhoafnaaGreat

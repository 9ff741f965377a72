/- The statements on changes of amounts, walked. -/
import Derived.Test.YtnmfiiejhoafnaaSmState15
set_option linter.unusedSimpArgs false
set_option linter.unusedVariables false
namespace Go.Proofs.Ytnmfiiejhoafnaa
namespace Ex
open Go Calm Go.RowKit
theorem add_ok {s : GState} {l : List GDelta} (h : s.cells.length ≤ 100 ∧ s.seqs.length ≤ 100 ∧ s.locks.length ≤ 100 ∧ s.applied.length ≤ 100) (hl : l.length ≤ 100) : stOK (addS s l) := by
  have h1 := putAll_len l s.cells
  refine ⟨?_, by simp only [addS]; omega, by simp only [addS]; omega, by simp only [addS]; omega⟩
  simp only [addS]
  omega
end Ex
end Go.Proofs.Ytnmfiiejhoafnaa

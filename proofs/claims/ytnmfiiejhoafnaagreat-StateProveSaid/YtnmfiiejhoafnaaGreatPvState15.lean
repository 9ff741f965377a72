/- The statements on marks, on the order of cells, on checks and on changes of amounts, walked. -/
import Derived.Test.YtnmfiiejhoafnaaGreatPvState14
set_option linter.unusedSimpArgs false
set_option linter.unusedVariables false
namespace Go.Proofs.YtnmfiiejhoafnaaGreat
namespace Ex
open Go Calm Go.RowKit
theorem big_no {s : GState} (h : bigS s = false) : s.cells.length ≤ 100 ∧ s.seqs.length ≤ 100 ∧ s.locks.length ≤ 100 ∧ s.applied.length ≤ 100 := by
  unfold bigS at h
  simp only [Bool.or_eq_false_iff, decide_eq_false_iff_not] at h
  omega
theorem small_ok {s : GState} (h : s.cells.length ≤ 100 ∧ s.seqs.length ≤ 100 ∧ s.locks.length ≤ 100 ∧ s.applied.length ≤ 100) : stOK s := ⟨by omega, by omega, by omega, by omega⟩
end Ex
end Go.Proofs.YtnmfiiejhoafnaaGreat

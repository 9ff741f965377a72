/- Locks found, opened, closed; what is shown of a state; in plain Lean. -/
import Derived.Test.YtnmfiiejhoafnaaSmSum
set_option linter.unusedSimpArgs false
set_option linter.unusedVariables false
namespace Go.Proofs.Ytnmfiiejhoafnaa
namespace Ex
open Go Calm Go.RowKit
theorem ver_at {L : List UInt64} {r : Nat} (h : r < L.length) : verB (root L) (L.getD r default) (r : Int) (L.length : Int) (pathV L (r : Int)) = true := by
  have h1 := inc_all h
  simp only [Bool.and_eq_true] at h1
  exact h1.1.2
theorem leaves_cell {s : GState} {k : Nat} (h : k < s.cells.length) : (leaves s).getD k default = leafC (s.cells.getD k default) := by
  unfold leaves
  rw [List.getD_eq_getElem?_getD, List.getElem?_append_left (by simp only [List.length_append, List.length_map]; omega), List.getElem?_append_left (by simp only [List.length_append, List.length_map]; omega), List.getElem?_append_left (by simp only [List.length_append, List.length_map]; omega), List.getElem?_append_left (by rw [List.length_map]; exact h), List.getElem?_map, List.getD_eq_getElem?_getD, List.getElem?_eq_getElem h]
  rfl
theorem prvE_cell {s : GState} {c : GCell} (h : 0 ≤ fnd s.cells c) : pathB (leaves s) (fnd s.cells c) = true := by
  have h1 := fnd_lt h
  have h2 := leaves_len s
  exact (pathB_yes ⟨h, by omega⟩).symm
theorem shown_cell {s : GState} {c : GCell} (h : 0 ≤ fnd s.cells c) : verB (root (leaves s)) (leafC ⟨c, getL s.cells c⟩) (prvI s (fnd s.cells c)).index (prvI s (fnd s.cells c)).count (prvI s (fnd s.cells c)).path = true := by
  have h1 := fnd_lt h
  have h2 := leaves_len s
  rw [← prvI_yes (prvE_cell h), ← h1.2]
  simp only
  rw [← cell_at h, ← leaves_cell h1.1]
  exact ver_at (by omega)
theorem fnd_pos {l : List GDelta} {c : GCell} : 0 ≤ fnd l c ∨ fnd l c = -1 := by
  by_cases h : 0 ≤ fnd l c
  · exact .inl h
  · exact .inr (idx_neg (by unfold fnd at h; omega))
end Ex
end Go.Proofs.Ytnmfiiejhoafnaa

/- Locks found, opened, closed; what is shown of a state; in plain Lean. -/
import Derived.Test.YtnmfiiejhoafnaaGreatPvSum
set_option linter.unusedSimpArgs false
set_option linter.unusedVariables false
namespace Go.Proofs.YtnmfiiejhoafnaaGreat
namespace Ex
open Go Calm Go.RowKit
theorem ver_at {L : List UInt64} {r : Nat} (h : r < L.length) : verB (root L) (L.getD r default) (r : Int) (L.length : Int) (pathV L (r : Int)) = true := by
  have h1 := inc_all h
  simp only [Bool.and_eq_true] at h1
  exact h1.1.2
theorem leaves_cell {s : GState} {k : Nat} (h : k < s.cells.length) : (leaves s).getD k default = leafC (s.cells.getD k default) := by
  unfold leaves
  rw [List.getD_eq_getElem?_getD, List.getElem?_append_left (by simp only [List.length_append, List.length_map]; omega), List.getElem?_append_left (by simp only [List.length_append, List.length_map]; omega), List.getElem?_append_left (by simp only [List.length_append, List.length_map]; omega), List.getElem?_append_left (by rw [List.length_map]; exact h), List.getElem?_map, List.getD_eq_getElem?_getD, List.getElem?_eq_getElem h]
  rfl
theorem leaves_app {s : GState} {k : Nat} (h : k < s.applied.length) : (leaves s).getD (s.cells.length + s.seqs.length + s.locks.length + k) default = leafA (s.applied.getD k default) := by
  have e : ((s.cells.map leafC ++ seqLf s.seqs s.seqs.length) ++ s.locks.map leafK).length = s.cells.length + s.seqs.length + s.locks.length := by simp only [List.length_append, List.length_map, seqLf_len]
  unfold leaves
  rw [List.getD_eq_getElem?_getD, List.getElem?_append_left (by rw [List.length_append, e, List.length_map]; omega), List.getElem?_append_right (by rw [e]; omega), e, Nat.add_sub_cancel_left, List.getElem?_map, List.getD_eq_getElem?_getD, List.getElem?_eq_getElem h]
  rfl
theorem prvE_cell {s : GState} {c : GCell} (h : 0 ≤ fnd s.cells c) : pathB (leaves s) (fnd s.cells c) = true := by
  have h1 := fnd_lt h
  have h2 := leaves_len s
  exact (pathB_yes ⟨h, by omega⟩).symm
theorem shown_cell {s : GState} {c : GCell} (h : 0 ≤ fnd s.cells c) : verB (root (leaves s)) (leafC ⟨c, getL s.cells c⟩) (prvI s (fnd s.cells c)).index (prvI s (fnd s.cells c)).count (prvI s (fnd s.cells c)).path = true := by
  have h1 := fnd_lt h
  have h2 := leaves_len s
  rw [← prvI_yes (prvE_cell h), ← h1.2]
  simp only
  rw [← cell_at h, ← leaves_cell h1.1]
  exact ver_at (by omega)
theorem prvE_app {s : GState} {n : UInt64} (h : 0 ≤ appI s n) : pathB (leaves s) (appI s n) = true := by
  have h2 := leaves_len s
  unfold appI at h ⊢
  split
  · next h0 =>
    have h1 := idx_lt h0
    exact (pathB_yes ⟨by omega, by omega⟩).symm
  · next h0 => rw [if_neg h0] at h; omega
theorem appI_nat {s : GState} {n : UInt64} (h : 0 ≤ appI s n) : ∃ k, k < s.applied.length ∧ appI s n = ((s.cells.length + s.seqs.length + s.locks.length + k : Nat) : Int) ∧ s.applied.getD k default = n := by
  unfold appI at h ⊢
  split
  · next h0 =>
    have h1 := idx_lt h0
    have h2 := idx_sat h0
    exact ⟨_, h1.1, by omega, (of_decide_eq_true h2).symm⟩
  · next h0 => rw [if_neg h0] at h; omega
theorem shown_app {s : GState} {n : UInt64} (h : 0 ≤ appI s n) : verB (root (leaves s)) (leafA n) (prvI s (appI s n)).index (prvI s (appI s n)).count (prvI s (appI s n)).path = true := by
  obtain ⟨k, h1, h2, h3⟩ := appI_nat h
  have h4 := leaves_len s
  rw [← prvI_yes (prvE_app h), h2]
  simp only
  rw [← h3, ← leaves_app h1]
  exact ver_at (by omega)
theorem appI_pos {s : GState} {n : UInt64} : 0 ≤ appI s n ∨ appI s n = -1 := by
  unfold appI
  split <;> omega
theorem fnd_pos {l : List GDelta} {c : GCell} : 0 ≤ fnd l c ∨ fnd l c = -1 := by
  by_cases h : 0 ≤ fnd l c
  · exact .inl h
  · exact .inr (idx_neg (by unfold fnd at h; omega))
end Ex
end Go.Proofs.YtnmfiiejhoafnaaGreat

/- Locks found, opened, closed; what is shown of a state; in plain Lean. -/
import Derived.Test.YtnmfiiejhoafnaaGreatLkSum
set_option linter.unusedSimpArgs false
set_option linter.unusedVariables false
namespace Go.Proofs.YtnmfiiejhoafnaaGreat
namespace Ex
open Go Calm Go.RowKit
def fndK (l : List GLock) (n : UInt64) : Int := idx (fun k => decide (k.name = n)) l
def lkB (l : List GLock) (n : UInt64) : Bool := decide (0 ≤ fndK l n)
def lkV (l : List GLock) (n : UInt64) : GLock := if 0 ≤ fndK l n then l.getD (fndK l n).toNat default else default
def openS (s : GState) (k : GLock) : GState := if 0 ≤ fndK s.locks k.name then s else { s with locks := insL cmpK s.locks k }
def closeS (s : GState) (n : UInt64) : GState := if 0 ≤ fndK s.locks n then { s with locks := s.locks.take (fndK s.locks n).toNat ++ s.locks.drop ((fndK s.locks n).toNat + 1) } else s
theorem fndK_lt {l : List GLock} {n : UInt64} (h : 0 ≤ fndK l n) : (fndK l n).toNat < l.length ∧ ((fndK l n).toNat : Int) = fndK l n := idx_lt h
theorem open_yes {s : GState} {k : GLock} (h : 0 ≤ fndK s.locks k.name) : s = openS s k := by unfold openS; rw [if_pos h]
theorem open_no {s : GState} {k : GLock} (h : ¬ 0 ≤ fndK s.locks k.name) : (⟨s.cells, s.seqs, s.locks.take (bef cmpK s.locks k).toNat ++ k :: s.locks.drop (bef cmpK s.locks k).toNat, s.applied, s.guilty⟩ : GState) = openS s k := by unfold openS; rw [if_neg h]; rfl
theorem close_yes {s : GState} {n : UInt64} (h : 0 ≤ fndK s.locks n) : (⟨s.cells, s.seqs, s.locks.take (fndK s.locks n).toNat ++ s.locks.drop ((fndK s.locks n).toNat + 1), s.applied, s.guilty⟩ : GState) = closeS s n := by unfold closeS; rw [if_pos h]
theorem close_no {s : GState} {n : UInt64} (h : ¬ 0 ≤ fndK s.locks n) : s = closeS s n := by unfold closeS; rw [if_neg h]
theorem lk_yes {l : List GLock} {n : UInt64} (h : 0 ≤ fndK l n) : l.getD (fndK l n).toNat default = lkV l n := by unfold lkV; rw [if_pos h]
theorem lk_no {l : List GLock} {n : UInt64} (h : ¬ 0 ≤ fndK l n) : (⟨0, 0, 0, 0, 0⟩ : GLock) = lkV l n := by unfold lkV; rw [if_neg h]; rfl
theorem lk_has {l : List GLock} {n : UInt64} (h : 0 ≤ fndK l n) : lkB l n = true := decide_eq_true h
theorem lk_not {l : List GLock} {n : UInt64} (h : ¬ 0 ≤ fndK l n) : lkB l n = false := decide_eq_false h
theorem lk_cons (x : GLock) (l : List GLock) (n : UInt64) : lkB (x :: l) n = (decide (x.name = n) || lkB l n) ∧ lkV (x :: l) n = if x.name = n then x else lkV l n := by
  unfold lkB lkV fndK idx
  by_cases h : x.name = n
  · simp [idxN, h]
  · simp only [idxN, h, decide_false, if_false, List.length_cons, Nat.add_lt_add_iff_right, Bool.false_eq_true, Bool.false_or]
    by_cases h1 : idxN (fun k : GLock => decide (k.name = n)) l < l.length
    · rw [if_pos h1, if_pos h1, if_pos (by omega), if_pos (by omega)]
      exact ⟨by rw [decide_eq_decide]; omega, by simp⟩
    · rw [if_neg h1, if_neg h1, if_neg (by omega), if_neg (by omega)]
      exact ⟨rfl, rfl⟩
theorem lk_none {l : List GLock} {n : UInt64} (h : ¬ 0 ≤ fndK l n) : ∀ y ∈ l, y.name ≠ n := fun y hy => of_decide_eq_false (idx_none_mem (p := fun k : GLock => decide (k.name = n)) h y hy)
theorem lk_ins {l : List GLock} {k : GLock} (h : ∀ y ∈ l, y.name ≠ k.name) : lkB (insL cmpK l k) k.name = true ∧ lkV (insL cmpK l k) k.name = k := by
  induction l with
  | nil => rw [insL_nil, (lk_cons _ _ _).1, (lk_cons _ _ _).2]; simp
  | cons x l ih =>
    rw [insL_cons]
    split
    · rw [(lk_cons _ _ _).1, (lk_cons _ _ _).2]; simp
    · have hx := h x (by simp)
      have := ih fun y hy => h y (List.mem_cons_of_mem _ hy)
      rw [(lk_cons _ _ _).1, (lk_cons _ _ _).2, this.1, if_neg hx, this.2]
      simp
theorem lock_law (s : GState) (k : GLock) : lkB (openS s k).locks k.name = true ∧ (lkB s.locks k.name = true → lkV (openS s k).locks k.name = lkV s.locks k.name) ∧ (lkB s.locks k.name = false → lkV (openS s k).locks k.name = k) := by
  by_cases h : 0 ≤ fndK s.locks k.name
  · have e : openS s k = s := (open_yes h).symm
    have hb : lkB s.locks k.name = true := decide_eq_true h
    rw [e, hb]
    exact ⟨rfl, fun _ => rfl, fun h => by cases h⟩
  · have hb : lkB s.locks k.name = false := decide_eq_false h
    have hi := lk_ins (lk_none h)
    have e : (openS s k).locks = insL cmpK s.locks k := by unfold openS; rw [if_neg h]
    rw [e, hb]
    exact ⟨hi.1, (fun h => by cases h), fun _ => hi.2⟩
theorem ver_at {L : List UInt64} {r : Nat} (h : r < L.length) : verB (root L) (L.getD r default) (r : Int) (L.length : Int) (pathV L (r : Int)) = true := by
  have h1 := inc_all h
  simp only [Bool.and_eq_true] at h1
  exact h1.1.2
theorem leaves_cell {s : GState} {k : Nat} (h : k < s.cells.length) : (leaves s).getD k default = leafC (s.cells.getD k default) := by
  unfold leaves
  rw [List.getD_eq_getElem?_getD, List.getElem?_append_left (by simp only [List.length_append, List.length_map]; omega), List.getElem?_append_left (by simp only [List.length_append, List.length_map]; omega), List.getElem?_append_left (by simp only [List.length_append, List.length_map]; omega), List.getElem?_append_left (by rw [List.length_map]; exact h), List.getElem?_map, List.getD_eq_getElem?_getD, List.getElem?_eq_getElem h]
  rfl
theorem prvE_cell {s : GState} {c : GCell} (h : 0 ≤ fnd s.cells c) : pathB (leaves s) (fnd s.cells c) = true := by
  have h1 := fnd_lt h
  have h2 := leaves_len s
  exact (pathB_yes ⟨h, by omega⟩).symm
theorem shown_cell {s : GState} {c : GCell} (h : 0 ≤ fnd s.cells c) : verB (root (leaves s)) (leafC ⟨c, getL s.cells c⟩) (prvI s (fnd s.cells c)).index (prvI s (fnd s.cells c)).count (prvI s (fnd s.cells c)).path = true := by
  have h1 := fnd_lt h
  have h2 := leaves_len s
  rw [← prvI_yes (prvE_cell h), ← h1.2]
  simp only
  rw [← cell_at h, ← leaves_cell h1.1]
  exact ver_at (by omega)
theorem fnd_pos {l : List GDelta} {c : GCell} : 0 ≤ fnd l c ∨ fnd l c = -1 := by
  by_cases h : 0 ≤ fnd l c
  · exact .inl h
  · exact .inr (idx_neg (by unfold fnd at h; omega))
end Ex
end Go.Proofs.YtnmfiiejhoafnaaGreat

/- Amounts added: the sums, the single amounts, the order and the validity of what comes out; in plain Lean. -/
import Derived.Test.YtnmfiiejhoafnaaGreatPvState10
set_option linter.unusedSimpArgs false
set_option linter.unusedVariables false
namespace Go.Proofs.YtnmfiiejhoafnaaGreat
namespace Ex
open Go Calm Go.RowKit
theorem idxN_sat {α : Type} [Inhabited α] {p : α → Bool} : ∀ {l : List α}, idxN p l < l.length → p (l.getD (idxN p l) default) = true
  | [], h => absurd h (Nat.not_lt_zero _)
  | a :: l, h => by
    by_cases ha : p a = true
    · simp only [idxN, ha, if_true, List.getD_cons_zero]
    · simp only [idxN, ha, if_false, List.getD_cons_succ, List.length_cons, Nat.add_lt_add_iff_right, Bool.false_eq_true] at h ⊢
      exact idxN_sat h
theorem idx_sat {α : Type} [Inhabited α] {p : α → Bool} {l : List α} (h : 0 ≤ idx p l) : p (l.getD (idx p l).toNat default) = true := by
  unfold idx at h ⊢
  split
  · next h1 => rw [Int.toNat_natCast]; exact idxN_sat h1
  · next h1 => rw [if_neg h1] at h; omega
theorem fnd_cell {l : List GDelta} {c : GCell} (h : 0 ≤ fnd l c) : (l.getD (fnd l c).toNat default).cell = c := of_decide_eq_true (idx_sat (p := fun d : GDelta => decide (d.cell = c)) h)
theorem cell_at {l : List GDelta} {c : GCell} (h : 0 ≤ fnd l c) : l.getD (fnd l c).toNat default = ⟨c, getL l c⟩ := by
  rw [← getL_amt h]
  exact congrArg (fun x => (⟨x, (l.getD (fnd l c).toNat default).amount⟩ : GDelta)) (fnd_cell h)
end Ex
end Go.Proofs.YtnmfiiejhoafnaaGreat

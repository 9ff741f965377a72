/- Changes of amounts: of the reference. -/
import Derived.Test.YtnmfiiejhoafnaaGreatLkState9
set_option linter.unusedSimpArgs false
set_option linter.unusedVariables false
namespace Go.Proofs.YtnmfiiejhoafnaaGreat
namespace Ex
open Go Calm Go.RowKit
theorem getL_amt {l : List GDelta} {c : GCell} (h : 0 ≤ fnd l c) : (l.getD (fnd l c).toNat default).amount = getL l c := by unfold getL; rw [if_pos h]
theorem befG_hit {α : Type} [Inhabited α] {c : α → α → Int} {l : List α} {x : α} {i : Nat} (h : ∀ j, j < i → ¬ 0 < c (l.getD j default) x) (hi : i ≤ l.length) (he : ¬ (i : Int) < (l.length : Int) ∨ 0 < c (l.getD i default) x) : (bef c l x).toNat = i := by
  have hp : ∀ j, j < i → (fun y => decide (0 < c y x)) (l.getD j default) = false := fun j hj => decide_eq_false (h j hj)
  unfold bef
  by_cases h2 : i < l.length
  · rw [← idx_hit (p := fun y => decide (0 < c y x)) hp h2 (decide_eq_true (he.resolve_left (by omega))), if_pos (by omega)]
    rfl
  · rw [← idx_none (p := fun y => decide (0 < c y x)) hp (by omega), if_neg (by omega)]
    omega
end Ex
end Go.Proofs.YtnmfiiejhoafnaaGreat

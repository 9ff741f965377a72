/- Amounts added: the sums, the single amounts, the order and the validity of what comes out; in plain Lean. -/
import Derived.Test.YtnmfiiejhoafnaaCpState10
set_option linter.unusedSimpArgs false
set_option linter.unusedVariables false
namespace Go.Proofs.Ytnmfiiejhoafnaa
namespace Ex
open Go Calm Go.RowKit
theorem cmpI_lt {a b : Int} : cmpI a b < 0 ↔ a < b := by unfold cmpI; (repeat' split) <;> omega
theorem cmpI_gt {a b : Int} : 0 < cmpI a b ↔ b < a := by unfold cmpI; (repeat' split) <;> omega
theorem cmpI_eq {a b : Int} : cmpI a b = 0 ↔ a = b := by unfold cmpI; (repeat' split) <;> omega
theorem cmpI_neg (a b : Int) : cmpI b a = -cmpI a b := by unfold cmpI; (repeat' split) <;> omega
theorem or3_lt {a b c : Int} : or3 a b c < 0 ↔ a < 0 ∨ (a = 0 ∧ (b < 0 ∨ (b = 0 ∧ c < 0))) := by unfold or3; (repeat' split) <;> omega
theorem or3_gt {a b c : Int} : 0 < or3 a b c ↔ 0 < a ∨ (a = 0 ∧ (0 < b ∨ (b = 0 ∧ 0 < c))) := by unfold or3; (repeat' split) <;> omega
theorem or3_eq {a b c : Int} : or3 a b c = 0 ↔ a = 0 ∧ b = 0 ∧ c = 0 := by unfold or3; (repeat' split) <;> omega
theorem or3_neg (a b c : Int) : or3 (-a) (-b) (-c) = -or3 a b c := by unfold or3; (repeat' split) <;> omega
theorem cmpC_lt {a b : GCell} : cmpC a b < 0 ↔ a.kind.toInt < b.kind.toInt ∨ (a.kind.toInt = b.kind.toInt ∧ (a.id.toInt < b.id.toInt ∨ (a.id.toInt = b.id.toInt ∧ (a.lock.toNat : Int) < (b.lock.toNat : Int)))) := by
  unfold cmpC cmpN; rw [or3_lt]; simp only [cmpI_lt, cmpI_eq]
theorem cmpC_gt {a b : GCell} : 0 < cmpC a b ↔ b.kind.toInt < a.kind.toInt ∨ (a.kind.toInt = b.kind.toInt ∧ (b.id.toInt < a.id.toInt ∨ (a.id.toInt = b.id.toInt ∧ (b.lock.toNat : Int) < (a.lock.toNat : Int)))) := by
  unfold cmpC cmpN; rw [or3_gt]; simp only [cmpI_gt, cmpI_eq]
theorem cmpC_eq {a b : GCell} : cmpC a b = 0 ↔ a = b := by
  unfold cmpC cmpN
  rw [or3_eq]
  simp only [cmpI_eq]
  constructor
  · rintro ⟨h1, h2, h3⟩
    cases a; cases b
    simp only at h1 h2 h3
    rw [Int64.toInt_inj.1 h1, Int64.toInt_inj.1 h2, UInt64.toNat_inj.1 (Int.ofNat.inj h3)]
  · rintro rfl
    exact ⟨rfl, rfl, rfl⟩
theorem cmpC_neg (a b : GCell) : cmpC b a = -cmpC a b := by
  unfold cmpC cmpN
  rw [cmpI_neg a.kind.toInt, cmpI_neg a.id.toInt, cmpI_neg (a.lock.toNat : Int), or3_neg]
theorem cmpC_le {a b c : GCell} (h1 : ¬ 0 < cmpC a b) (h2 : ¬ 0 < cmpC b c) : ¬ 0 < cmpC a c := by
  rw [cmpC_gt] at h1 h2 ⊢
  omega
theorem cmpC_ge {a b c : GCell} (h1 : ¬ cmpC a b < 0) (h2 : ¬ cmpC b c < 0) : ¬ cmpC a c < 0 := by
  rw [cmpC_lt] at h1 h2 ⊢
  omega
theorem compare_law (a b c : GCell) : (decide (0 < cmpC a b) || decide (0 < cmpC b c) || decide (cmpC a c ≤ 0)) = true ∧ (decide (cmpC a b < 0) || decide (cmpC b c < 0) || decide (0 ≤ cmpC a c)) = true := by
  simp only [Bool.or_eq_true, decide_eq_true_eq]
  refine ⟨?_, ?_⟩
  · by_cases h1 : 0 < cmpC a b
    · exact .inl (.inl h1)
    · by_cases h2 : 0 < cmpC b c
      · exact .inl (.inr h2)
      · exact .inr (Int.not_lt.1 (cmpC_le h1 h2))
  · by_cases h1 : cmpC a b < 0
    · exact .inl (.inl h1)
    · by_cases h2 : cmpC b c < 0
      · exact .inl (.inr h2)
      · exact .inr (Int.not_lt.1 (cmpC_ge h1 h2))
theorem idxN_sat {α : Type} [Inhabited α] {p : α → Bool} : ∀ {l : List α}, idxN p l < l.length → p (l.getD (idxN p l) default) = true
  | [], h => absurd h (Nat.not_lt_zero _)
  | a :: l, h => by
    by_cases ha : p a = true
    · simp only [idxN, ha, if_true, List.getD_cons_zero]
    · simp only [idxN, ha, if_false, List.getD_cons_succ, List.length_cons, Nat.add_lt_add_iff_right, Bool.false_eq_true] at h ⊢
      exact idxN_sat h
theorem idx_sat {α : Type} [Inhabited α] {p : α → Bool} {l : List α} (h : 0 ≤ idx p l) : p (l.getD (idx p l).toNat default) = true := by
  unfold idx at h ⊢
  split
  · next h1 => rw [Int.toNat_natCast]; exact idxN_sat h1
  · next h1 => rw [if_neg h1] at h; omega
theorem fnd_cell {l : List GDelta} {c : GCell} (h : 0 ≤ fnd l c) : (l.getD (fnd l c).toNat default).cell = c := of_decide_eq_true (idx_sat (p := fun d : GDelta => decide (d.cell = c)) h)
theorem cell_at {l : List GDelta} {c : GCell} (h : 0 ≤ fnd l c) : l.getD (fnd l c).toNat default = ⟨c, getL l c⟩ := by
  rw [← getL_amt h]
  exact congrArg (fun x => (⟨x, (l.getD (fnd l c).toNat default).amount⟩ : GDelta)) (fnd_cell h)
end Ex
end Go.Proofs.Ytnmfiiejhoafnaa
